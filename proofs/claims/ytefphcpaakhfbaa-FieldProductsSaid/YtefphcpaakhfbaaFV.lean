/-
  Calls of function values that bear their first arguments; powers' exponents; comparisons of numbers of words.
-/
import Derived.Test.YtefphcpaakhfbaaF6
namespace Go.Proofs.Ytefphcpaakhfbaa
open Go Go.Sl Go.RowKit Go.Fp

theorem GL_callV {P : Program} {n : Nat} {D : List Deferred} {X : List Nat} {w0 : World} {Q : Exit → Act → World → Prop} {E : Env} {M : List Blk} {ops : Array Oper} {rest : List Oper} {d : Tmp} {x : Operand} {xs : Array Operand} {ts : Array TypeId} {tt : TypeId} {pos : String} {af : Array Edge} {g : Option (Nat × Bool)} {f : FuncId} {fi cap args : List Value}
    {A M1 : List Blk} {K : Value → List Blk → Prop}
    (hw : wantG ops E g = some true) (hd : Nat.blt d n = true) (hf : ev E x = some (.func (.func f) fi.toArray cap.toArray)) (hargs : evL E xs.toList = some args)
    (hb : ∀ gs w, (callFunc f gs).run P w = .ok (.enter f gs) w) (hA : Pick M A M1)
    (hc : ∀ w, SL X M w0 w → FnAt P f (fi ++ args ++ cap) A w (Ret K))
    (k : ∀ v N, K v N → GL P n D X w0 Q ops rest ((d, v) :: E) (N ++ M1)) :
    GL P n D X w0 Q ops (⟨some d, .call ⟨.value x, xs, ts⟩, tt, pos, af, g⟩ :: rest) E M := fun a w s => by
  unfold wpList
  rw [if_pos (wantG_ok (o := ⟨some d, .call ⟨.value x, xs, ts⟩, tt, pos, af, g⟩) s.1 hw)]
  refine .inl ?_
  unfold Oper.wp
  have hx := s.1.ev hf
  have ha : xs.map a.eval = args.toArray := by
    have := s.1.evL hargs
    rw [← this, ← Array.toList_map]
  have hrun : (execOp a.eval ⟨some d, .call ⟨.value x, xs, ts⟩, tt, pos, af, g⟩).run P w = .ok (.enter f (fi ++ args ++ cap).toArray) w := by
    simp [execOp, resolve, hx, ha, Deferred.ofValue, invoke, hb]
  rw [hrun, Oper.upon_enter]
  have hsA : SL (A.map (·.b)) A w w := by
    have sA := s.2.pick hA
    exact ⟨rfl, rfl, rfl, Nat.le_refl _, fun _ _ _ => rfl, sA.nodup, fun j hj => .inl (List.mem_map_of_mem hj), sA.mem⟩
  refine (hc w s.2 hsA).mono fun e w' ⟨N, hN, hs⟩ => ?_
  cases e with
  | returned v => exact k v N hN _ _ ⟨s.1.put (dst := some d) hd v, s.2.call hA hs⟩
  | panicked c => exact hN.elim
  | outgrown => exact hN.elim

/-- The exponent whose bits, the highest first, a function tells: so many steps of n. -/
def pe (bt : Nat → Bool) (n : Nat) : Nat → Nat
  | 0 => 0
  | m + 1 => 2 * pe bt n m + (bif bt (n - 1 - m) then 1 else 0)
theorem pw_sq (x e : Nat) : (x ^ e % P) * (x ^ e % P) % P = x ^ (2 * e) % P := by
  rw [← Nat.mul_mod, ← Nat.pow_add, Nat.two_mul]
theorem pw_mul (x e : Nat) : (x ^ e % P) * x % P = x ^ (e + 1) % P := by
  rw [Nat.mul_mod, Nat.mod_mod, ← Nat.mul_mod, Nat.pow_succ]
theorem pe_t {bt : Nat → Bool} {n m : Nat} (h : bt (n - 1 - m) = true) : pe bt n (m + 1) = 2 * pe bt n m + 1 := by
  rw [pe, h]; rfl
theorem pe_f {bt : Nat → Bool} {n m : Nat} (h : bt (n - 1 - m) = false) : pe bt n (m + 1) = 2 * pe bt n m := by
  rw [pe, h]; rfl
theorem elV_1 : elV 1 = [wv 1, wv 0, wv 0, wv 0] := by
  have h0 : wd 1 0 = 1 := by decide
  have h1 : wd 1 1 = 0 := by decide
  have h2 : wd 1 2 = 0 := by decide
  have h3 : wd 1 3 = 0 := by decide
  simp only [elV, h0, h1, h2, h3]
theorem elV_2 : elV 2 = [wv 2, wv 0, wv 0, wv 0] := by
  have h0 : wd 2 0 = 2 := by decide
  have h1 : wd 2 1 = 0 := by decide
  have h2 : wd 2 2 = 0 := by decide
  have h3 : wd 2 3 = 0 := by decide
  simp only [elV, h0, h1, h2, h3]
theorem pw_zero (x : Nat) (bt : Nat → Bool) (n : Nat) : ([wv 1, wv 0, wv 0, wv 0] : List Value) = elV (x ^ pe bt n 0 % P) := by
  rw [← elV_1]
  congr 1
theorem modP_lt (n : Nat) : n % P < w256 := Nat.lt_trans (Nat.mod_lt _ P_pos) P_lt
theorem pw_idx {n m : Nat} (h : m < n) : Value.int .i64 ((n : Int) - 1 - (m : Int)) = .int .i64 ((n - 1 - m : Nat) : Int) := by
  congr 1; omega
theorem pw_dec {n m : Nat} (h : m < n) (hn : n ≤ 1000) : Value.int .i64 (IntKind.i64.wrap (((n - 1 - m : Nat) : Int) - 1)) = .int .i64 ((n : Int) - 1 - ((m + 1 : Nat) : Int)) := by
  have e : IntKind.i64.wrap (((n - 1 - m : Nat) : Int) - 1) = (n : Int) - 1 - ((m + 1 : Nat) : Int) := by
    rw [IntKind.wrap_i64]; omega
  rw [e]
theorem pw_start {n : Nat} (hn : n ≤ 1000) : Value.int .i64 (IntKind.i64.wrap ((n : Int) - 1)) = .int .i64 ((n : Int) - 1 - ((0 : Nat) : Int)) := by
  have e : IntKind.i64.wrap ((n : Int) - 1) = (n : Int) - 1 - ((0 : Nat) : Int) := by
    rw [IntKind.wrap_i64]; omega
  rw [e]
/-! ## Bits -/
def btN (x i : Nat) : Bool := decide (x / 2 ^ i % 2 = 1)
theorem bit_law (x i : Nat) : decide (wd x (i / 64) / 2 ^ (i % 64) % 2 ^ 1 = 1) = btN x i := by
  unfold btN
  rw [decide_eq_decide]
  have e : wd x (i / 64) / 2 ^ (i % 64) % 2 ^ 1 = x / 2 ^ i % 2 := by
    unfold wd
    have hr : i % 64 < 64 := Nat.mod_lt _ (by decide)
    have e1 : w64 = 2 ^ (i % 64) * (2 * 2 ^ (63 - i % 64)) := by
      have h : w64 = 2 ^ 64 := by decide
      rw [h, ← Nat.pow_succ', ← Nat.pow_add]
      congr 1; omega
    have e2 : w64 ^ (i / 64) = 2 ^ (64 * (i / 64)) := by rw [Nat.pow_mul]; rfl
    have e3 : (2 : Nat) ^ i = 2 ^ (64 * (i / 64)) * 2 ^ (i % 64) := by
      rw [← Nat.pow_add, Nat.div_add_mod]
    rw [e2, e3, ← Nat.div_div_eq_div_mul]
    generalize x / 2 ^ (64 * (i / 64)) = y
    rw [e1, Nat.mod_mul_right_div_self, Nat.pow_one, Nat.mod_mul_right_mod]
  rw [e]
/-! ## Comparisons -/
def ints (x : Nat) : List Int := [(wd x 0 : Int), (wd x 1 : Int), (wd x 2 : Int), (wd x 3 : Int)]
theorem elV_ints (x : Nat) : elV x = (ints x).map (Value.int .u64) := rfl
theorem ints_eq {x y : Nat} (hx : x < w256) (hy : y < w256) : (ints x = ints y) ↔ x = y := by
  constructor
  · intro h
    simp only [ints, List.cons.injEq, and_true] at h
    obtain ⟨h0, h1, h2, h3⟩ := h
    rw [← elN_wd hx, ← elN_wd hy, Int.ofNat_inj.1 h0, Int.ofNat_inj.1 h1, Int.ofNat_inj.1 h2, Int.ofNat_inj.1 h3]
  · rintro rfl; rfl
theorem Y_neqEl {n : Nat} {D : List Deferred} {X : List Nat} {w0 : World} {E : Env} {M : List Blk} {tt t ty e : TypeId} {x y : Operand} {a b : Nat} (hg : Try.prog.eqGuardType Try.prog.depth t = false) (h : TInts Try.prog t 4 e) (hx : ev E x = some (.agg (elV a).toArray)) (hy : ev E y = some (.agg (elV b).toArray)) (ha : a < w256) (hb : b < w256) :
    Yl Try.prog n D X w0 E M (.binOp .neq t x y ty) tt (.bool (!decide (a = b))) :=
  Y_eqAgg (op := .neq) hg hx hy (fun w => by
    rw [elV_ints, elV_ints, run_equal_ints (d := 9998) h _ _ rfl rfl w]
    simp only [ints_eq ha hb]) (.inr rfl)
end Go.Proofs.Ytefphcpaakhfbaa

/-
  Rows of bytes of a call's own, or none; numbers' bytes without noughts at the end.
-/
import Derived.Test.YtefphcpaakhfbaaL2
namespace Go.Proofs.Ytefphcpaakhfbaa
open Go Go.Sl Go.RowKit Go.Fp

inductive OB (bs : List UInt8) : Option Addr → Nat → List Blk → Prop
  | none (h : bs = []) : OB bs none 0 []
  | some {b c : Nat} (h : bs.length ≤ c) : OB bs (some ⟨b, 0, .none⟩) c [⟨b, 5, c * 1, B bs, (0, 0)⟩]
theorem Pick.pre : ∀ N M : List Blk, Pick (N ++ M) N M
  | [], _ => .nil
  | _ :: N, M => .cons .head (Pick.pre N M)
theorem OB.cap {bs : List UInt8} {ao : Option Addr} {c : Nat} {N : List Blk} (h : OB bs ao c N) : bs.length ≤ c := by
  cases h with
  | none h => subst h; exact Nat.le_refl _
  | some h => exact h
theorem OB.at {bs : List UInt8} {ao : Option Addr} {c : Nat} {N M M1 : List Blk} {X : List Nat} {w0 w : World} (h : OB bs ao c N) (hp : Pick M N M1) (s : SL X M w0 w) : SlAt w ao (B bs) := by
  have s' := s.pick hp
  cases h with
  | none h => subst h; exact SlAt.nil _ _
  | some h => exact SlAt.mk' (s'.cells (List.mem_cons_self))
theorem subB {w : World} {ao : Option Addr} {c lo : Nat} {bs : List UInt8} (hs : SlAt w ao (B bs)) (hc : bs.length ≤ c) (hi : Nat) : SlAt w (subA ao c lo 1) (B ((bs.drop lo).take hi)) := by
  have h := (hs.drop c lo 1 (by simpa [B] using hc)).take hi
  simpa [B, List.map_take, List.map_drop] using h
theorem subA_zero (ao : Option Addr) (c : Nat) : adb (subA ao c 0 1) = adb ao := by
  unfold subA
  split
  · rfl
  · cases ao with
    | none => rfl
    | some a => simp only [Option.map_some, adb, Addr.add]; split <;> rfl
section
variable {n : Nat} {D : List Deferred} {X : List Nat} {w0 : World} {E : Env} {M : List Blk} {tt ty : TypeId} {ao ao2 : Option Addr} {l c m c' : Nat} {x y : Operand} {k : IntKind} {bs ys : List UInt8}
theorem Y_upto {i : Nat} (hx : ev E x = some (.slice ao l c)) (hy : ev E y = some (.int k (i : Int))) (h : i ≤ l) (hc : l ≤ c) :
    Yl Try.prog n D X w0 E M (.slice 48 x none (some y) none) tt (.slice (subA ao c 0 1) i c) := by
  have h1 := Y_slS (P := Try.prog) (n := n) (D := D) (X := X) (w0 := w0) (M := M) (tt := tt) (lo := none) (hi := some y) (vl := none) (vh := some (.int k (i : Int))) (kl := 0) (kh := i) sl8 hx rfl (by simp [hy]) rfl ⟨_, rfl⟩ (Nat.zero_le _) (by omega) hc
  simpa using h1
theorem W_appOB {M1 N : List Blk} {K : Value → List Blk → Prop} (ys : List UInt8) (hO : OB bs ao c N) (hN : Pick M N M1) (hx : ev E x = some (.slice ao l c)) (hl : l = bs.length) (hy : ev E y = some (.slice ao2 m c')) (hm : ys.length = m) (h0 : 0 < ys.length)
    (hs : ∀ w, SL X M w0 w → SlAt w ao2 (B ys)) (hb : bs.length + ys.length ≤ 1000000)
    (k : ∀ b' c', (bs ++ ys).length ≤ c' → K (.slice (some ⟨b', 0, none⟩) (bs ++ ys).length c') (⟨b', 5, c' * 1, B (bs ++ ys), (0, 0)⟩ :: M1)) :
    Wr Try.prog n D X w0 E M (.call ⟨.builtin .append, #[x, y], #[48, 48]⟩) tt K := by
  subst hl
  cases hO with
  | none h =>
    subst h
    cases hN
    refine W_appNilB ys Try.underlying48 te8 hx hy hm h0 hs (by omega) fun b' c' h => ?_
    have := k b' c' (by simpa using h)
    simpa using this
  | some h =>
    cases hN with
    | cons h1 h2 =>
      cases h2
      exact W_appB ys Try.underlying48 te8 hx hy h1 rfl hm (.inl rfl) hs (by omega) k
end
/-- The last byte is not nought. -/
def NZ (rs : List UInt8) : Prop := ∀ j, rs.length = j + 1 → dgt rs j ≠ 0
theorem NZ.len {rs : List UInt8} {k : Nat} (h : NZ rs) (hk : leN rs < 256 ^ k) : rs.length ≤ k := by
  apply Classical.byContradiction
  intro hn
  obtain ⟨j, hj⟩ : ∃ j, rs.length = j + 1 := ⟨rs.length - 1, by omega⟩
  refine h j hj ?_
  unfold dgt
  rw [Nat.div_eq_of_lt (Nat.lt_of_lt_of_le hk (Nat.pow_le_pow_right (by decide) (by omega)))]
theorem leN_app : ∀ (l m : List UInt8), leN (l ++ m) = leN l + 256 ^ l.length * leN m
  | [], m => by simp [leN]
  | a :: l, m => by
    simp only [List.cons_append, leN, leN_app l m, List.length_cons, Nat.pow_succ', Nat.mul_add, Nat.mul_assoc]
    omega
theorem leN_one (u : UInt8) : leN [u] = u.toNat := by simp [leN]
theorem leN_take_succ {l : List UInt8} {i : Nat} (h : i < l.length) : leN (l.take (i + 1)) = leN (l.take i) + 256 ^ i * l[i].toNat := by
  rw [List.take_add_one, List.getElem?_eq_getElem h, leN_app, List.length_take, Nat.min_eq_left (by omega)]
  simp [leN]
theorem norm_step {bs : List UInt8} {i : Nat} (h : i < bs.length) (h0 : bs[i].toNat = 0) (hi : leN (bs.take (i + 1)) = leN bs) : leN (bs.take i) = leN bs := by
  rw [leN_take_succ h, h0] at hi
  omega
theorem norm_nz {bs : List UInt8} {i : Nat} (h : i < bs.length) (h0 : ¬ bs[i].toNat = 0) : NZ (bs.take (i + 1)) := by
  intro j hj
  have hl : (bs.take (i + 1)).length = i + 1 := by simp; omega
  have hji : j = i := by omega
  subst hji
  have h1 : j < (bs.take (j + 1)).length := by omega
  have h2 := leN_digit (bs.take (j + 1)) j h1
  unfold dgt
  rw [h2]
  simpa using h0
theorem NZ.nil : NZ [] := fun j hj => by simp at hj
/-- What a call that answers a number's bytes leaves. -/
def NB (x : Nat) (v : Value) (N : List Blk) : Prop := ∃ (rs : List UInt8) (ao : Option Addr) (c : Nat), v = .slice ao rs.length c ∧ OB rs ao c N ∧ leN rs = x ∧ NZ rs
/-! ## Sums -/
theorem mod_pow_succ (x i : Nat) : x % 256 ^ (i + 1) = x % 256 ^ i + 256 ^ i * (x / 256 ^ i % 256) := by
  rw [Nat.pow_succ, Nat.mod_mul]
theorem sum_step {A C x y c o q d : Nat} (h : o + c * q = A % q + C % q) (hA : x = A / q % 256) (hC : y = C / q % 256) (e1 : A % (q * 256) = A % q + q * (A / q % 256)) (e2 : C % (q * 256) = C % q + q * (C / q % 256)) (hd : d = x + y + c) :
    o + q * (d % 256) + d / 256 * (q * 256) = A % (q * 256) + C % (q * 256) := by
  rw [e1, e2, ← hA, ← hC]
  have e3 : q * (d % 256) + d / 256 * (q * 256) = q * d := by
    have : d / 256 * (q * 256) = q * (256 * (d / 256)) := by grind
    rw [this, ← Nat.mul_add]
    congr 1; omega
  have e4 : q * d = q * x + q * y + q * c := by rw [hd, Nat.mul_add, Nat.mul_add]
  have e5 : c * q = q * c := Nat.mul_comm _ _
  omega
structure AI where
  i : Nat
  c : Nat
  bs : List UInt8
  ao : Option Addr
  cp : Nat
  N : List Blk
structure AI.ok (A C mx : Nat) (p : AI) : Prop where
  hi : p.i ≤ mx + 1
  hc : p.c ≤ 1
  hm : mx < p.i → p.c = 0
  hl : p.bs.length = p.i
  hO : OB p.bs p.ao p.cp p.N
  hv : leN p.bs + p.c * 256 ^ p.i = A % 256 ^ p.i + C % 256 ^ p.i
theorem dgt_mod (xs : List UInt8) (i : Nat) : dgt xs i = leN xs / 256 ^ i % 256 := rfl
theorem AI.step {xs ys : List UInt8} {p : AI} {ao' : Option Addr} {c' : Nat} {N' : List Blk} {mx : Nat} (h : p.ok (leN xs) (leN ys) mx) (h1 : p.i ≤ mx) (hx : p.i = mx → dgt xs p.i = 0 ∧ dgt ys p.i = 0)
    (hO : OB (p.bs ++ [UInt8.ofNat ((dgt xs p.i + dgt ys p.i + p.c) % 256)]) ao' c' N') :
    AI.ok (leN xs) (leN ys) mx ⟨p.i + 1, (dgt xs p.i + dgt ys p.i + p.c) / 256, p.bs ++ [UInt8.ofNat ((dgt xs p.i + dgt ys p.i + p.c) % 256)], ao', c', N'⟩ := by
  have b1 := dgt_lt xs p.i
  have b2 := dgt_lt ys p.i
  have hc := h.hc
  refine ⟨by simp only; omega, by simp only; omega, fun hm => ?_, by simp [h.hl], hO, ?_⟩
  · simp only at hm ⊢
    obtain ⟨e1, e2⟩ := hx (by omega)
    omega
  · simp only
    rw [leN_app, leN_one, h.hl, u8_val, Nat.pow_succ]
    exact sum_step h.hv (dgt_mod xs p.i) (dgt_mod ys p.i) (by rw [← Nat.pow_succ, mod_pow_succ]) (by rw [← Nat.pow_succ, mod_pow_succ]) rfl
theorem AI.done {xs ys : List UInt8} {p : AI} {mx : Nat} (h : p.ok (leN xs) (leN ys) mx) (h1 : xs.length ≤ p.i) (h2 : ys.length ≤ p.i) (h0 : p.c = 0) : leN p.bs = leN xs + leN ys := by
  have hv := h.hv
  have a1 : leN xs < 256 ^ p.i := Nat.lt_of_lt_of_le (leN_lt xs) (Nat.pow_le_pow_right (by decide) h1)
  have a2 : leN ys < 256 ^ p.i := Nat.lt_of_lt_of_le (leN_lt ys) (Nat.pow_le_pow_right (by decide) h2)
  rw [h0, Nat.mod_eq_of_lt a1, Nat.mod_eq_of_lt a2] at hv
  omega
/-! ## Differences -/
theorem dif_step {A C c o q d c' : Nat} (hx : A / q % 256 + c' * 256 = d + C / q % 256 + c) (e1 : A % (q * 256) = A % q + q * (A / q % 256)) (e2 : C % (q * 256) = C % q + q * (C / q % 256)) (h2 : o + C % q = A % q + c * q) :
    o + q * d + C % (q * 256) = A % (q * 256) + c' * (q * 256) := by
  rw [e1, e2]
  have e3 : q * (A / q % 256) + q * (c' * 256) = q * d + q * (C / q % 256) + q * c := by rw [← Nat.mul_add, hx, Nat.mul_add, Nat.mul_add]
  have e4 : c' * (q * 256) = q * (c' * 256) := by rw [Nat.mul_left_comm]
  have e5 : c * q = q * c := Nat.mul_comm _ _
  omega
structure SI.ok (A C mx : Nat) (p : AI) : Prop where
  hi : p.i ≤ mx
  hc : p.c ≤ 1
  hl : p.bs.length = p.i
  hO : OB p.bs p.ao p.cp p.N
  hv : leN p.bs + C % 256 ^ p.i = A % 256 ^ p.i + p.c * 256 ^ p.i
theorem SI.next {xs ys : List UInt8} {p : AI} {ao' : Option Addr} {cp d c' : Nat} {N' : List Blk} {mx : Nat} (h : SI.ok (leN xs) (leN ys) mx p) (h1 : p.i < mx) (hd : dgt xs p.i + c' * 256 = d + dgt ys p.i + p.c) (hd2 : d < 256) (hc' : c' ≤ 1)
    (hO : OB (p.bs ++ [UInt8.ofNat d]) ao' cp N') : SI.ok (leN xs) (leN ys) mx ⟨p.i + 1, c', p.bs ++ [UInt8.ofNat d], ao', cp, N'⟩ := by
  refine ⟨h1, hc', by simp [h.hl], hO, ?_⟩
  simp only
  have e : (UInt8.ofNat d).toNat = d := by simp; omega
  rw [leN_app, leN_one, h.hl, e, Nat.pow_succ]
  exact dif_step hd (by rw [← Nat.pow_succ, mod_pow_succ]) (by rw [← Nat.pow_succ, mod_pow_succ]) h.hv
theorem SI.done {xs ys : List UInt8} {p : AI} (h : SI.ok (leN xs) (leN ys) xs.length p) (hi : p.i = xs.length) (hle : leN ys ≤ leN xs) : leN p.bs = leN xs - leN ys := by
  have hv := h.hv
  have hl := h.hl
  have a1 := leN_lt xs
  have a3 := leN_lt p.bs
  rw [hl, hi] at a3
  rw [hi, Nat.mod_eq_of_lt a1, Nat.mod_eq_of_lt (by omega : leN ys < 256 ^ xs.length)] at hv
  have hc := h.hc
  have : p.c = 0 ∨ p.c = 1 := by omega
  rcases this with h0 | h0
  · rw [h0] at hv; omega
  · rw [h0] at hv; omega
end Go.Proofs.Ytefphcpaakhfbaa

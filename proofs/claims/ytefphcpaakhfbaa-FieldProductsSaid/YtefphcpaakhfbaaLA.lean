/-
  The references' bytes: reading, comparing.
-/
import Derived.Test.YtefphcpaakhfbaaF9
namespace Go.Proofs.Ytefphcpaakhfbaa
open Go Go.Sl Go.RowKit Go.Fp

theorem sl8 : TSli Try.prog 48 5 1 := ⟨Try.underlying48, by kernel_rfl⟩
theorem sc8 : TScal Try.prog 5 := ⟨_, Try.underlying5, rfl, by kernel_rfl⟩
theorem te8 : TEl Try.prog 5 1 1 := TEl.mk' (by kernel_rfl)
section
variable {n : Nat} {D : List Deferred} {X : List Nat} {w0 : World} {E : Env} {M : List Blk} {tt ty : TypeId} {ao : Option Addr} {l c j : Nat} {x y i : Operand} {k : IntKind} {bs : List UInt8}
theorem bytesNe (h : j < bs.length) : B bs ≠ [] := fun e => by
  rw [B, List.map_eq_nil_iff] at e; subst e; simp at h
theorem Y_bAt (hs : SlAt w0 ao (B bs)) (hx : ev E x = some (.slice ao l c)) (hi : ev E i = some (.int k (j : Int))) (hk : j < bs.length) (hl : l = bs.length) :
    Yl Try.prog n D X w0 E M (.indexAddr 48 x i) tt (.pointer (some ⟨adb ao, ado ao + j, none⟩)) :=
  Y_idxS1 sl8 hx (hs.addr (bytesNe hk)) hi (by rw [hl]; exact hk)
theorem Y_bGet (hs : SlAt w0 ao (B bs)) (hX : adb ao ∉ X) (hx : ev E x = some (.pointer (some ⟨adb ao, ado ao + j, none⟩))) (hk : j < bs.length) :
    Yl Try.prog n D X w0 E M (.load 5 x) tt (bv bs[j]) :=
  Y_loadX hx sc8 hs.cells hX rfl (by simp [B, hk])
theorem Y_max {ts : Array TypeId} {a b : Nat} (hx : ev E x = some (.int .i64 (a : Int))) (hy : ev E y = some (.int .i64 (b : Int))) :
    Yl Try.prog n D X w0 E M (.call ⟨.builtin .max, #[x, y], ts⟩) tt (.int .i64 ((max a b : Nat) : Int)) := fun ac w s d pos af g => by
  have h : (if (b : Int) > (a : Int) then (b : Int) else (a : Int)) = ((max a b : Nat) : Int) := by
    split <;> omega
  have hr : (Builtin.max_ ts tt #[.int .i64 (a : Int), .int .i64 (b : Int)]).run Try.prog w = .ok (.int .i64 ((max a b : Nat) : Int)) w := by rw [run_max_int2, h]
  simp [execOp, resolve, invoke, builtin, s.1.ev hx, s.1.ev hy, hr]
end
/-- A digit. -/
def dgt (bs : List UInt8) (i : Nat) : Nat := leN bs / 256 ^ i % 256
theorem dgt_lt (bs : List UInt8) (i : Nat) : dgt bs i < 256 := Nat.mod_lt _ (by decide)
theorem dgt_in {bs : List UInt8} {i : Nat} (h : i < bs.length) : bs[i].toNat = dgt bs i := (leN_digit bs i h).symm
theorem leN_div {bs : List UInt8} {i : Nat} (h : bs.length ≤ i) : leN bs / 256 ^ i = 0 :=
  Nat.div_eq_of_lt (Nat.lt_of_lt_of_le (leN_lt bs) (Nat.pow_le_pow_right (by decide) h))
theorem dgt_out {bs : List UInt8} {i : Nat} (h : ¬ i < bs.length) : 0 = dgt bs i := by
  unfold dgt; rw [leN_div (by omega)]
theorem div_step (x k : Nat) : x / 256 ^ k = 256 * (x / 256 ^ (k + 1)) + x / 256 ^ k % 256 := by
  rw [Nat.pow_succ, ← Nat.div_div_eq_div_mul]; omega
theorem cmp_lt {x y k : Nat} (h : x / 256 ^ (k + 1) = y / 256 ^ (k + 1)) (hd : x / 256 ^ k % 256 < y / 256 ^ k % 256) : x < y := by
  apply Classical.byContradiction
  intro hn
  have h1 : y / 256 ^ k ≤ x / 256 ^ k := Nat.div_le_div_right (by omega)
  rw [div_step x k, div_step y k, h] at h1
  omega
theorem cmp_eq {x y k : Nat} (h : x / 256 ^ (k + 1) = y / 256 ^ (k + 1)) (h1 : ¬ x / 256 ^ k % 256 < y / 256 ^ k % 256) (h2 : ¬ x / 256 ^ k % 256 > y / 256 ^ k % 256) : x / 256 ^ k = y / 256 ^ k := by
  rw [div_step x k, div_step y k, h]
  omega
def cmpZ (x y : Nat) : Int := if x < y then -1 else if y < x then 1 else 0
theorem cmpZ_lt {x y : Nat} (h : x < y) : (-1 : Int) = cmpZ x y := by unfold cmpZ; rw [if_pos h]
theorem cmpZ_gt {x y : Nat} (h : y < x) : (1 : Int) = cmpZ x y := by unfold cmpZ; rw [if_neg (by omega), if_pos h]
theorem cmpZ_eq {x y : Nat} (h : x = y) : (0 : Int) = cmpZ x y := by unfold cmpZ; rw [if_neg (by omega), if_neg (by omega)]
theorem cmp_start (xs bs : List UInt8) : leN xs / 256 ^ (max xs.length bs.length) = leN bs / 256 ^ (max xs.length bs.length) := by
  rw [leN_div (by omega), leN_div (by omega)]
theorem cmp_dec {m : Nat} (h : 0 < m) (hm : m < 9223372036854775808) : Value.int .i64 (IntKind.i64.wrap (((m - 1 : Nat) : Int) - 1)) = .int .i64 (((m - 1 : Nat) : Int) - 1) := by
  have e : IntKind.i64.wrap (((m - 1 : Nat) : Int) - 1) = ((m - 1 : Nat) : Int) - 1 := by
    rw [IntKind.wrap_i64]; omega
  rw [e]
theorem cmp_first {m : Nat} (hm : m < 9223372036854775808) : Value.int .i64 (IntKind.i64.wrap ((m : Int) - 1)) = .int .i64 ((m : Int) - 1) := by
  have e : IntKind.i64.wrap ((m : Int) - 1) = (m : Int) - 1 := by
    rw [IntKind.wrap_i64]; omega
  rw [e]
theorem cmp_set {m : Nat} (h : 0 < m) : Value.int .i64 ((m : Int) - 1) = .int .i64 ((m - 1 : Nat) : Int) := by
  congr 1; omega
theorem le_is (x : Nat) : decide (cmpZ x P < 0) = decide (x < P) := by
  rw [decide_eq_decide]
  unfold cmpZ
  split
  · simp [*]
  · split <;> simp [*]
/-- The prime's bytes. -/
def pB : List UInt8 := [237] ++ List.replicate 30 255 ++ [127]
theorem pB_len : pB.length = 32 := by decide
theorem pB_N : leN pB = P := by decide +kernel
theorem pB_app (j : Nat) : [237] ++ List.replicate j 255 ++ [(255 : UInt8)] = [237] ++ List.replicate (j + 1) 255 := by
  rw [List.append_assoc, List.replicate_succ']
theorem p1_len (j : Nat) : ([237] ++ List.replicate j (255 : UInt8)).length = j + 1 := by simp
/-! ## Full -/
theorem full_get {bs : List UInt8} {i : Nat} (h : i < bs.length) (h2 : i < (le32 (leN bs)).length) : bs[i] = (le32 (leN bs))[i] := by
  have e : (le32 (leN bs))[i] = UInt8.ofNat (leN bs / 256 ^ i % 256) := dg_get 32 (leN bs) i h2
  rw [e, leN_digit bs i h]
  simp
theorem full_st {bs : List UInt8} {i : Nat} (hb : bs.length ≤ 32) (h : i < bs.length) : setL (B (fl (le32 (leN bs)) 0 i)) (0 + i) (bv bs[i]) = some (B (fl (le32 (leN bs)) 0 (i + 1))) := by
  have hl := le32_len (leN bs)
  have h2 : i < (le32 (leN bs)).length := by omega
  rw [Nat.zero_add, setL_B (by rw [fl_len]; exact h2), full_get h h2, fl_set _ _ _ h2]
theorem full_end {bs : List UInt8} (hb : bs.length ≤ 32) : B (fl (le32 (leN bs)) 0 bs.length) = B (le32 (leN bs)) := by
  have hl := le32_len (leN bs)
  congr 1
  apply List.ext_getElem?
  intro j
  unfold fl
  by_cases hj : j < bs.length
  · rw [List.getElem?_append_left (by simp; omega), List.getElem?_take_of_lt hj]
  · have htl : (List.take bs.length (le32 (leN bs))).length = bs.length := by simp; omega
    rw [List.getElem?_append_right (by omega), htl, hl]
    by_cases h32 : j < 32
    · have h2 : j < (le32 (leN bs)).length := by omega
      have e : (le32 (leN bs))[j] = UInt8.ofNat (leN bs / 256 ^ j % 256) := dg_get 32 (leN bs) j h2
      rw [List.getElem?_eq_getElem h2, e, leN_div (by omega)]
      have h3 : j - bs.length < 32 - bs.length := by omega
      simp [h3]
    · rw [List.getElem?_eq_none (by simp; omega), List.getElem?_eq_none (by omega)]
end Go.Proofs.Ytefphcpaakhfbaa

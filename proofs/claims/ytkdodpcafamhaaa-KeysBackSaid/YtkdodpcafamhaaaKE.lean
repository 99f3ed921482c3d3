/-
  Plain facts on rings, places, numbers.
-/
import Derived.Test.YtkdodpcafamhaaaKD
namespace Go.Proofs.Ytkdodpcafamhaaa
open Go Go.Sl Go.RowKit

theorem asc_base : ∀ {r : List KeyD} {l : Int} {i : Nat} {a : KeyD}, ascB l r = true → r[i]? = some a → l < a.num ∧ a.num ≤ 2147483647
  | [], _, _, _, _, h => by simp at h
  | x :: r, l, 0, a, h, ha => by
    simp at ha; subst ha
    simp [ascB] at h; omega
  | x :: r, l, i + 1, a, h, ha => by
    simp at ha
    simp [ascB] at h
    have := asc_base h.2 ha
    omega
theorem asc_lt : ∀ {r : List KeyD} {l : Int} {i j : Nat} {a b : KeyD}, ascB l r = true → r[i]? = some a → r[j]? = some b → i < j → a.num < b.num
  | [], _, _, _, _, _, _, h, _, _ => by simp at h
  | x :: r, l, 0, 0, a, b, h, ha, hb, hij => by omega
  | x :: r, l, 0, j + 1, a, b, h, ha, hb, hij => by
    simp at ha hb; subst ha
    simp [ascB] at h
    exact (asc_base h.2 hb).1
  | x :: r, l, i + 1, 0, a, b, h, ha, hb, hij => by omega
  | x :: r, l, i + 1, j + 1, a, b, h, ha, hb, hij => by
    simp at ha hb
    simp [ascB] at h
    exact asc_lt h.2 ha hb (by omega)
theorem posD_some {r : List KeyD} {l : Int} {i : Nat} {k : KeyD} {x : Int} (h : ascB l r = true) (hk : r[i]? = some k) (hx : k.num = x) : posD r x = some i := by
  obtain ⟨hlt, he⟩ := List.getElem?_eq_some_iff.1 hk
  unfold posD
  rw [List.findIdx?_eq_some_iff_getElem]
  refine ⟨hlt, by simp [he, hx], fun j hji => ?_⟩
  have := asc_lt h (List.getElem?_eq_getElem (by omega : j < r.length)) hk hji
  simp; omega
theorem posD_none {r : List KeyD} {x : Int} (h : ∀ (i : Nat) k, r[i]? = some k → k.num ≠ x) : posD r x = none := by
  unfold posD
  rw [List.findIdx?_eq_none_iff]
  intro k hk
  obtain ⟨i, hi⟩ := List.getElem?_of_mem hk
  simp [h i k hi]
theorem posD_at {r : List KeyD} {x : Int} {i : Nat} (h : posD r x = some i) : ∃ k, r[i]? = some k ∧ k.num = x := by
  unfold posD at h
  rw [List.findIdx?_eq_some_iff_getElem] at h
  obtain ⟨hlt, hp, _⟩ := h
  exact ⟨r[i], List.getElem?_eq_getElem hlt, by simpa using hp⟩
theorem posD_not {r : List KeyD} {x : Int} (h : posD r x = none) {k : KeyD} (hk : k ∈ r) : k.num ≠ x := by
  unfold posD at h
  rw [List.findIdx?_eq_none_iff] at h
  simpa using h k hk
def cmpI (x y : Int) : Int := if x < y then -1 else if x > y then 1 else 0
theorem may_len {r : List KeyD} (h : mayB r = true) : r.length ≤ 8 := by simp [mayB] at h; exact h.2
theorem may_asc {r : List KeyD} (h : mayB r = true) : ascB (-1) r = true := by simp [mayB] at h; exact h.1

theorem u8mod (n : Nat) : UInt8.ofNat (n % 256) = UInt8.ofNat n := by
  apply UInt8.toNat_inj.1; simp
theorem four_eq (n : Nat) : [bv (UInt8.ofNat (n % 256))] ++ [bv (UInt8.ofNat (n / 256 % 256))] ++ [bv (UInt8.ofNat (n / 256 / 256 % 256))] ++ [bv (UInt8.ofNat (n / 256 / 256 / 256 % 256))] = B (le4 n) := by
  simp only [u8mod, Nat.div_div_eq_div_mul]
  rfl
/-- A number out of its four bytes. -/
def num4 (a b c d : UInt8) : Nat := a.toNat + b.toNat * 2 ^ 8 + c.toNat * 2 ^ 16 + d.toNat * 2 ^ 24
theorem num4_le4 {n : Nat} (h : n < 4294967296) : num4 (UInt8.ofNat n) (UInt8.ofNat (n / 2 ^ 8)) (UInt8.ofNat (n / 2 ^ 16)) (UInt8.ofNat (n / 2 ^ 24)) = n := by
  simp only [num4, UInt8.toNat_ofNat']
  omega
theorem or_disj {a b k : Nat} (ha : a < 2 ^ k) : a ||| b * 2 ^ k = a + b * 2 ^ k := by
  rw [Nat.or_comm, Nat.mul_comm, ← Nat.two_pow_add_eq_or_of_lt ha, Nat.add_comm]
theorem iop_or {a b k : Nat} (ha : a < 2 ^ k) (h : a + b * 2 ^ k < 9223372036854775808) : iop .or .i64 (a : Int) ((b * 2 ^ k : Nat) : Int) = some (.int .i64 ((a + b * 2 ^ k : Nat) : Int)) := by
  have e : (BitVec.ofInt 64 (a : Int) ||| BitVec.ofInt 64 ((b * 2 ^ k : Nat) : Int)).toNat = a + b * 2 ^ k := by
    rw [BitVec.toNat_or, BitVec.ofInt_natCast, BitVec.ofInt_natCast, BitVec.toNat_ofNat, BitVec.toNat_ofNat, Nat.mod_eq_of_lt (by omega), Nat.mod_eq_of_lt (by omega), or_disj ha]
  show some (Value.int .i64 (IntKind.i64.wrap (BitVec.ofInt 64 (a : Int) ||| BitVec.ofInt 64 ((b * 2 ^ k : Nat) : Int)).toNat)) = _
  rw [e, wrap64_nat h]
theorem flat_step {r : List KeyD} {j m : Nat} {k : KeyD} {pre bs : List UInt8} {x : UInt8} (hk : r[j]? = some k) (h : bs = pre ++ (r.take j).flatMap keyBytes) (hm : k.num = (m : Int)) (hx : (if k.rev then 1 else 0) = x) :
    bs ++ le4 m ++ k.bytes ++ [x] = pre ++ (r.take (j + 1)).flatMap keyBytes := by
  subst h; subst hx
  rw [List.take_add_one, hk]
  simp [keyBytes, hm]
theorem flat_len' {r : List KeyD} {j : Nat} {bs : List UInt8} (hj : j ≤ r.length) (h : bs = [114, 105, 110, 103] ++ le4 r.length ++ (r.take j).flatMap keyBytes) : bs.length = 8 + j * 37 := by
  subst h
  simp only [le4, List.length_append, flat_len, List.length_cons, List.length_nil, List.length_take]
  omega

/-! ## Reading -/
def bAt (l : List UInt8) (i : Nat) : UInt8 := (l[i]?).getD 0
def partB (l : List UInt8) (j : Nat) : List UInt8 := (List.range 32).map fun i => if i < j then bAt l (4 + i) else 0
theorem partB_len (l : List UInt8) (j : Nat) : (partB l j).length = 32 := by simp [partB]
def keyP (l : List UInt8) (j : Nat) : KeyD := ⟨(num4 (bAt l 0) (bAt l 1) (bAt l 2) (bAt l 3) : Nat), partB l j, partB_len l j, decide (bAt l 36 = 1)⟩
def keyOf (l : List UInt8) : KeyD := keyP l 32
def keysOf : Nat → List UInt8 → List KeyD
  | 0, _ => []
  | n + 1, l => if 37 ≤ l.length then keyOf l :: keysOf n (l.drop 37) else []
theorem partB_all {l : List UInt8} (h : 36 ≤ l.length) : partB l 32 = (l.drop 4).take 32 := by
  apply List.ext_getElem?
  intro i
  simp only [partB, List.getElem?_map, List.getElem?_take, List.getElem?_drop]
  by_cases hi : i < 32
  · have : i < (List.range 32).length := by simpa using hi
    simp only [List.getElem?_eq_getElem this, List.getElem_range, Option.map_some, hi, if_true, bAt]
    rw [List.getElem?_eq_getElem (by omega)]
    rfl
  · simp [hi]
theorem partB_step (l : List UInt8) {j : Nat} (hj : j < 32) : (partB l j).set j (bAt l (4 + j)) = partB l (j + 1) := by
  apply List.ext_getElem?
  intro i
  simp only [partB, List.getElem?_set, List.length_map, List.length_range, List.getElem?_map, hj, if_true]
  by_cases hi : i < 32
  · have h1 : i < (List.range 32).length := by simpa using hi
    simp only [List.getElem?_eq_getElem h1, List.getElem_range, Option.map_some]
    by_cases hij : j = i
    · subst hij; simp
    · rw [if_neg hij]
      by_cases h2 : i < j
      · rw [if_pos h2, if_pos (by omega)]
      · rw [if_neg h2, if_neg (by omega)]
  · have : j ≠ i := by omega
    rw [if_neg this]; simp [hi]
theorem num4_lt (a b c d : UInt8) : num4 a b c d < 4294967296 := by
  have := a.toNat_lt; have := b.toNat_lt; have := c.toNat_lt; have := d.toNat_lt
  unfold num4; omega
end Go.Proofs.Ytkdodpcafamhaaa

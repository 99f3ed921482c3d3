/-
  Rings as data: their cells, their bytes.
-/
import Derived.Test.YtkdodpcafamhaaaSlB
namespace Go.Proofs.Ytkdodpcafamhaaa
open Go Go.Sl Go.RowKit

structure KeyD where
  num : Int
  bytes : List UInt8
  len : bytes.length = 32
  rev : Bool
deriving DecidableEq

def keyL (k : KeyD) : List Value := .int .i64 k.num :: (B k.bytes ++ [.bool k.rev])
def ringL (r : List KeyD) : List Value := r.flatMap keyL
theorem keyL_len (k : KeyD) : (keyL k).length = 34 := by simp [keyL, len_B, k.len]
theorem keyL_all (k : KeyD) : (keyL k).all Value.oneCell' = true := by
  simp only [keyL, List.all_cons, List.all_append, all_B, List.all_nil, Value.oneCell']
  rfl
theorem ringL_all (r : List KeyD) : (ringL r).all Value.oneCell' = true := by
  simp only [ringL, List.all_flatMap]
  exact List.all_eq_true.2 fun k _ => keyL_all k
theorem ringL_len (r : List KeyD) : (ringL r).length = r.length * 34 := by
  induction r with
  | nil => rfl
  | cons k r ih =>
    simp only [ringL, List.flatMap_cons, List.length_append, keyL_len, List.length_cons] at *
    omega
theorem ringL_cons (k : KeyD) (r : List KeyD) : ringL (k :: r) = keyL k ++ ringL r := rfl
theorem ringL_append (r s : List KeyD) : ringL (r ++ s) = ringL r ++ ringL s := by simp [ringL]
theorem ringL_one (k : KeyD) : ringL [k] = keyL k := by simp [ringL]
theorem ringL_drop : ∀ (r : List KeyD) (j : Nat), (ringL r).drop (j * 34) = ringL (r.drop j)
  | [], j => by simp [ringL]
  | k :: r, 0 => by simp
  | k :: r, j + 1 => by
    rw [ringL_cons, List.drop_succ_cons, ← ringL_drop r j, List.drop_append, keyL_len]
    rw [List.drop_eq_nil_of_le (by rw [keyL_len]; omega)]
    simp only [List.nil_append]
    congr 1; omega
theorem drop_cons {r : List KeyD} {j : Nat} {k : KeyD} (h : r[j]? = some k) : r.drop j = k :: r.drop (j + 1) := by
  obtain ⟨hlt, rfl⟩ := List.getElem?_eq_some_iff.1 h
  exact List.drop_eq_getElem_cons hlt
theorem ringL_at {r : List KeyD} {j : Nat} {k : KeyD} (h : r[j]? = some k) : ((ringL r).drop (j * 34)).take 34 = keyL k := by
  rw [ringL_drop, drop_cons h, ringL_cons]
  exact List.take_left' (keyL_len k)
theorem ringL_get {r : List KeyD} {j i : Nat} {k : KeyD} {v : Value} (h : r[j]? = some k) (hv : (keyL k)[i]? = some v) : (ringL r)[j * 34 + i]? = some v := by
  have := ringL_at h
  rw [← List.getElem?_drop, ringL_drop, drop_cons h, ringL_cons]
  obtain ⟨hi, _⟩ := List.getElem?_eq_some_iff.1 hv
  rw [List.getElem?_append_left hi]
  exact hv
theorem key_rev (k : KeyD) : (keyL k)[33]? = some (.bool k.rev) := by
  have : (33 : Nat) = (B k.bytes).length + 1 := by rw [len_B, k.len]
  rw [this]
  simp [keyL]
theorem nth_rev (k : KeyD) : nth (keyL k) 33 = some (.bool k.rev) := by rw [nth_eq]; exact key_rev k
theorem key_bytes (k : KeyD) : ((keyL k).drop 1).take 32 = B k.bytes := by
  simp only [keyL, List.drop_succ_cons, List.drop_zero]
  exact List.take_left' (by rw [len_B, k.len])
theorem keyL_setrev (k : KeyD) (b : Bool) : (keyL k).set 33 (.bool b) = keyL { k with rev := b } := by
  have : (33 : Nat) = (B k.bytes).length + 1 := by rw [len_B, k.len]
  rw [this]
  simp [keyL]
theorem ringL_setrev : ∀ {r : List KeyD} {j : Nat} {k : KeyD}, r[j]? = some k → (ringL r).set (j * 34 + 33) (.bool true) = ringL (r.set j { k with rev := true })
  | [], _, _, h => by simp at h
  | x :: r, 0, k, h => by
    simp at h
    subst h
    simp only [List.set_cons_zero, ringL_cons, Nat.zero_mul, Nat.zero_add]
    rw [List.set_append_left _ _ (by rw [keyL_len]; omega), keyL_setrev]
  | x :: r, j + 1, k, h => by
    simp only [List.getElem?_cons_succ] at h
    simp only [List.set_cons_succ, ringL_cons]
    rw [List.set_append_right _ _ (by rw [keyL_len]; omega), keyL_len]
    have e : (j + 1) * 34 + 33 - 34 = j * 34 + 33 := by omega
    rw [e, ringL_setrev h]

/-! ## May -/
def ascB : Int → List KeyD → Bool
  | _, [] => true
  | l, k :: r => !decide (k.num ≤ l ∨ k.num > 2147483647) && ascB k.num r
def mayB (r : List KeyD) : Bool := ascB (-1) r && decide (r.length ≤ 8)

/-! ## Bytes -/
def le4 (n : Nat) : List UInt8 := [UInt8.ofNat n, UInt8.ofNat (n / 2 ^ 8), UInt8.ofNat (n / 2 ^ 16), UInt8.ofNat (n / 2 ^ 24)]
def keyBytes (k : KeyD) : List UInt8 := le4 k.num.toNat ++ k.bytes ++ [if k.rev then 1 else 0]
def bytesD (r : List KeyD) : List UInt8 := [114, 105, 110, 103] ++ le4 r.length ++ r.flatMap keyBytes
theorem keyBytes_len (k : KeyD) : (keyBytes k).length = 37 := by simp [keyBytes, le4, k.len]
theorem flat_len : ∀ r : List KeyD, (r.flatMap keyBytes).length = r.length * 37
  | [] => rfl
  | k :: r => by
    simp only [List.flatMap_cons, List.length_append, keyBytes_len, List.length_cons, flat_len r]; omega
theorem bytesD_len (r : List KeyD) : (bytesD r).length = 8 + r.length * 37 := by
  simp only [bytesD, le4, List.length_append, flat_len, List.length_cons, List.length_nil]
def posD (r : List KeyD) (x : Int) : Option Nat := r.findIdx? fun k => decide (k.num = x)

/-- A slice of keys of the call's own: none where there is no key. -/
def Own (N : List Blk) (ao : Option Addr) (c : Nat) (r : List KeyD) : Prop := (N = [] ∧ ao = none ∧ c = 0 ∧ r = []) ∨ ∃ b, ao = some ⟨b, 0, none⟩ ∧ N = [⟨b, 39, c * 34, ringL r, (0, 0)⟩]
theorem Own.sl {N : List Blk} {ao : Option Addr} {c : Nat} {r : List KeyD} (h : Own N ao c r) {X : List Nat} {w0 w : World} (s : SL X N w0 w) : SlAt w ao (ringL r) := by
  rcases h with ⟨_, rfl, _, rfl⟩ | ⟨b, rfl, rfl⟩
  · exact SlAt.nil _ _
  · exact SlAt.mk' (s.cells (List.mem_cons_self))
end Go.Proofs.Ytkdodpcafamhaaa

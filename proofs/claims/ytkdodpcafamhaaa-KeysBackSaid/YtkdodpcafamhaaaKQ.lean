/-
  Plain facts on reading a ring.
-/
import Derived.Test.YtkdodpcafamhaaaKE
namespace Go.Proofs.Ytkdodpcafamhaaa
open Go Go.Sl Go.RowKit

theorem keyD_ext {a b : KeyD} (h1 : a.num = b.num) (h2 : a.bytes = b.bytes) (h3 : a.rev = b.rev) : a = b := by
  cases a; cases b; simp at h1 h2 h3; subst h1; subst h2; subst h3; rfl
theorem keysOf_len : ∀ (n : Nat) (l : List UInt8), (keysOf n l).length ≤ n
  | 0, _ => by simp [keysOf]
  | n + 1, l => by
    simp only [keysOf]
    split
    · have := keysOf_len n (l.drop 37); simp; omega
    · simp
theorem keysOf_step {n : Nat} {l : List UInt8} (hn : 0 < n) (h : 37 ≤ l.length) : keysOf n l = keyOf l :: keysOf (n - 1) (l.drop 37) := by
  obtain ⟨m, rfl⟩ : ∃ m, n = m + 1 := ⟨n - 1, by omega⟩
  simp [keysOf, h]
theorem keysOf_end {n : Nat} {l : List UInt8} (h : ¬ (37 ≤ l.length ∧ 0 < n)) : keysOf n l = [] := by
  cases n with
  | zero => rfl
  | succ n =>
    have h2 : ¬ 37 ≤ l.length := fun h1 => h ⟨h1, by omega⟩
    simp only [keysOf, if_neg h2]
/-- The loop's step. -/
theorem keysOf_app {r : List KeyD} {l : List UInt8} {ks : List KeyD} (h : ks = r ++ keysOf (8 - r.length) l) (hr : r.length < 8) (hl : 37 ≤ l.length) : ks = (r ++ [keyOf l]) ++ keysOf (8 - (r ++ [keyOf l]).length) (l.drop 37) := by
  rw [h, keysOf_step (by omega) hl]
  have : 8 - r.length - 1 = 8 - (r ++ [keyOf l]).length := by simp; omega
  rw [this]; simp
theorem keyOf_back {k : KeyD} {rest : List UInt8} (h0 : 0 ≤ k.num) (h1 : k.num ≤ 2147483647) : keyOf (keyBytes k ++ rest) = k := by
  have hlen : (keyBytes k ++ rest).length = 37 + rest.length := by rw [List.length_append, keyBytes_len]
  refine keyD_ext ?_ ?_ ?_
  · show ((num4 (UInt8.ofNat k.num.toNat) (UInt8.ofNat (k.num.toNat / 2 ^ 8)) (UInt8.ofNat (k.num.toNat / 2 ^ 16)) (UInt8.ofNat (k.num.toNat / 2 ^ 24)) : Nat) : Int) = k.num
    rw [num4_le4 (by omega)]; omega
  · show partB (keyBytes k ++ rest) 32 = k.bytes
    rw [partB_all (by omega)]
    show ((k.bytes ++ [if k.rev then 1 else 0]) ++ rest).take 32 = k.bytes
    rw [List.append_assoc, List.take_left' k.len]
  · show decide (bAt (keyBytes k ++ rest) 36 = 1) = k.rev
    have e : bAt (keyBytes k ++ rest) 36 = if k.rev then 1 else 0 := by
      have e1 : keyBytes k ++ rest = (le4 k.num.toNat ++ k.bytes) ++ ((if k.rev then 1 else 0) :: rest) := by simp [keyBytes]
      rw [bAt, e1, List.getElem?_append_right (by simp [le4, k.len])]
      simp [le4, k.len]
    rw [e]
    cases k.rev <;> simp
theorem keysOf_back : ∀ (r : List KeyD) (n : Nat), r.length ≤ n → (∀ k ∈ r, 0 ≤ k.num ∧ k.num ≤ 2147483647) → keysOf n (r.flatMap keyBytes) = r
  | [], n, _, _ => by cases n <;> simp [keysOf]
  | k :: r, n, hn, h => by
    have hk := h k (List.mem_cons_self)
    simp only [List.length_cons] at hn
    rw [List.flatMap_cons, keysOf_step (by omega) (by rw [List.length_append, keyBytes_len]; omega), keyOf_back hk.1 hk.2]
    have e : (keyBytes k ++ r.flatMap keyBytes).drop 37 = r.flatMap keyBytes := List.drop_left' (keyBytes_len k)
    rw [e, keysOf_back r (n - 1) (by omega) fun k' h' => h k' (List.mem_cons_of_mem _ h')]
theorem ring_back {r : List KeyD} (hm : mayB r = true) : keysOf 8 ((bytesD r).drop 8) = r := by
  have e : (bytesD r).drop 8 = r.flatMap keyBytes := by
    unfold bytesD
    exact List.drop_left' (by simp [le4])
  rw [e]
  refine keysOf_back r 8 (may_len hm) fun k hk => ?_
  obtain ⟨i, hi⟩ := List.getElem?_of_mem hk
  have := asc_base (may_asc hm) hi
  omega
/-- What Parse takes. -/
def okB (b : List UInt8) : Bool := decide (8 ≤ b.length) && mayB (keysOf 8 (b.drop 8)) && decide (bytesD (keysOf 8 (b.drop 8)) = b)
theorem okB_of {b : List UInt8} (h : okB b = true) : 8 ≤ b.length ∧ mayB (keysOf 8 (b.drop 8)) = true ∧ bytesD (keysOf 8 (b.drop 8)) = b := by
  simp only [okB, Bool.and_eq_true, decide_eq_true_eq] at h
  exact ⟨h.1.1, h.1.2, h.2⟩
theorem okB_back {r : List KeyD} (hm : mayB r = true) : okB (bytesD r) = true := by
  simp only [okB, ring_back hm, hm, bytesD_len]
  simp
theorem okB_form {b : List UInt8} (h : okB b = true) : (b.length - 8) % 37 = 0 ∧ b.length ≤ 304 := by
  obtain ⟨h1, _, h3⟩ := okB_of h
  have h4 := keysOf_len 8 (b.drop 8)
  have h5 := bytesD_len (keysOf 8 (b.drop 8))
  rw [h3] at h5
  omega
/-- All keys of bytes of the right length. -/
theorem keysOf_all {b : List UInt8} {r : List KeyD} {pos : Nat} (h : keysOf 8 (b.drop 8) = r ++ keysOf (8 - r.length) (b.drop pos)) (hp : b.length ≤ pos) : keysOf 8 (b.drop 8) = r := by
  rw [h, keysOf_end (by rw [List.length_drop]; omega)]; simp
theorem bAt_drop (l : List UInt8) (p i : Nat) : bAt (l.drop p) i = bAt l (p + i) := by simp [bAt, List.getElem?_drop]
theorem bAt_of {l : List UInt8} {i : Nat} {x : UInt8} (h : l[i]? = some x) : bAt l i = x := by simp [bAt, h]
theorem num_ref (a b c d : UInt8) : 256 * (256 * (256 * (256 * 0 + d.toNat) + c.toNat) + b.toNat) + a.toNat = num4 a b c d := by unfold num4; omega
end Go.Proofs.Ytkdodpcafamhaaa

/-
  Plain facts: what is laid down is read as itself, and the other way.
-/
import Derived.Test.YthabomkcangegaaMA
namespace Go.Proofs.Ythabomkcangegaa
open Go Go.Sl Go.RowKit

theorem u8_ofNat {x : UInt8} {n : Nat} (h : n % 256 = x.toNat) : UInt8.ofNat n = x := UInt8.toNat_inj.1 (by rw [UInt8.toNat_ofNat']; exact h)
theorem le4_num4 (a b c d : UInt8) : le4 (num4 a b c d) = [a, b, c, d] := by
  have ha := a.toNat_lt; have hb := b.toNat_lt; have hc := c.toNat_lt; have hd := d.toNat_lt
  unfold le4 num4
  rw [u8_ofNat (x := a) (by omega), u8_ofNat (x := b) (by omega), u8_ofNat (x := c) (by omega), u8_ofNat (x := d) (by omega)]
theorem take4_at {l : List UInt8} {p : Nat} (h : p + 4 ≤ l.length) : (l.drop p).take 4 = [bAt l p, bAt l (p + 1), bAt l (p + 2), bAt l (p + 3)] := by
  rw [List.drop_eq_getElem_cons (by omega), List.drop_eq_getElem_cons (by omega), List.drop_eq_getElem_cons (by omega), List.drop_eq_getElem_cons (by omega)]
  simp only [List.take_succ_cons, List.take_zero, bAt]
  rw [List.getElem?_eq_getElem (by omega), List.getElem?_eq_getElem (by omega), List.getElem?_eq_getElem (by omega), List.getElem?_eq_getElem (by omega)]
  rfl
theorem le4_at {l : List UInt8} {p : Nat} (h : p + 4 ≤ l.length) : le4 (numAt l p) = (l.drop p).take 4 := by
  rw [take4_at h, numAt, le4_num4]
theorem seg_at {l : List UInt8} (h : 40 ≤ l.length) : segBytes (segOf l) = l.take 40 := by
  show le4 ((numAt l 0 : Nat) : Int).toNat ++ le4 ((numAt l 4 : Nat) : Int).toNat ++ partB l 32 = _
  rw [Int.toNat_natCast, Int.toNat_natCast, le4_at (by omega), le4_at (by omega), partB_all h]
  have e1 : l.take (8 + 32) = l.take 8 ++ (l.drop 8).take 32 := List.take_add
  have e2 : l.take (4 + 4) = l.take 4 ++ (l.drop 4).take 4 := List.take_add
  show _ = l.take (8 + 32)
  rw [e1, show l.take 8 = _ from e2, List.drop_zero]
theorem segs_flat (bs : List UInt8) : ∀ n : Nat, 24 + 40 * n ≤ bs.length → (segsAt bs n).flatMap segBytes = (bs.drop 24).take (40 * n)
  | 0, _ => by simp [segsAt]
  | n + 1, h => by
    rw [segsAt_succ, List.flatMap_append, segs_flat bs n (by omega)]
    have e : (bs.drop 24).take (40 * (n + 1)) = (bs.drop 24).take (40 * n) ++ ((bs.drop 24).drop (40 * n)).take 40 := by
      rw [show 40 * (n + 1) = 40 * n + 40 by omega]; exact List.take_add
    rw [e, List.drop_drop]
    simp only [List.flatMap_cons, List.flatMap_nil, List.append_nil]
    rw [seg_at (by rw [List.length_drop]; omega)]
theorem bytes_parse {bs : List UInt8} (h : okP bs = true) : bytesM (parseD bs) = bs := by
  obtain ⟨h24, hm, _, hl, _⟩ := okP_of h
  have e1 : headNums (parseD bs) = [numAt bs 4, numAt bs 8, numAt bs 12, numAt bs 16, numAt bs 20] := by
    simp only [headNums, parseD, Int.toNat_natCast, segsAt_len]
  unfold bytesM
  rw [e1]
  show _ ++ [numAt bs 4, numAt bs 8, numAt bs 12, numAt bs 16, numAt bs 20].flatMap le4 ++ (segsAt bs (numAt bs 20)).flatMap segBytes = bs
  rw [segs_flat bs _ (by omega), ← hm]
  simp only [List.flatMap_cons, List.flatMap_nil, List.append_nil]
  rw [le4_at (by omega), le4_at (by omega), le4_at (by omega), le4_at (by omega), le4_at (by omega)]
  have t24 : (bs.drop 24).take (40 * numAt bs 20) = bs.drop 24 := List.take_of_length_le (by rw [List.length_drop]; omega)
  rw [t24]
  have f : ∀ p, bs.drop p = (bs.drop p).take 4 ++ bs.drop (p + 4) := fun p => by
    rw [← List.drop_drop, List.take_append_drop]
  conv => rhs; rw [← List.take_append_drop 4 bs, f 4, f 8, f 12, f 16, f 20]
  simp
theorem manD_ext {a b : SegD} (h1 : a.load = b.load) (h2 : a.bytes = b.bytes) (h3 : a.dig = b.dig) : a = b := by
  cases a; cases b; simp at h1 h2 h3; subst h1; subst h2; subst h3; rfl
theorem segOf_back {s : SegD} {rest : List UInt8} (h0 : 0 ≤ s.load ∧ s.load ≤ 2147483647 ∧ 0 ≤ s.bytes ∧ s.bytes ≤ 1048576) : segOf (segBytes s ++ rest) = s := by
  refine manD_ext ?_ ?_ ?_
  · show ((num4 (UInt8.ofNat s.load.toNat) (UInt8.ofNat (s.load.toNat / 2 ^ 8)) (UInt8.ofNat (s.load.toNat / 2 ^ 16)) (UInt8.ofNat (s.load.toNat / 2 ^ 24)) : Nat) : Int) = s.load
    rw [num4_le4 (by omega)]; omega
  · show ((num4 (UInt8.ofNat s.bytes.toNat) (UInt8.ofNat (s.bytes.toNat / 2 ^ 8)) (UInt8.ofNat (s.bytes.toNat / 2 ^ 16)) (UInt8.ofNat (s.bytes.toNat / 2 ^ 24)) : Nat) : Int) = s.bytes
    rw [num4_le4 (by omega)]; omega
  · show partB (segBytes s ++ rest) 32 = s.dig
    rw [partB_all (by rw [List.length_append, segBytes_len]; omega)]
    show (s.dig ++ rest).take 32 = s.dig
    rw [List.take_left' s.len]
theorem flat_drop : ∀ (r : List SegD) (q : Nat), (r.flatMap segBytes).drop (40 * q) = (r.drop q).flatMap segBytes
  | [], q => by simp
  | s :: r, 0 => by simp
  | s :: r, q + 1 => by
    rw [List.flatMap_cons, List.drop_succ_cons, ← flat_drop r q, show 40 * (q + 1) = 40 + 40 * q by omega, ← List.drop_drop, List.drop_left' (segBytes_len s)]
theorem segs_back {m : ManD} (hs : segOk 0 m.segs = true) : segsAt (bytesM m) m.segs.length = m.segs := by
  apply List.ext_getElem?
  intro q
  simp only [segsAt, List.getElem?_map]
  by_cases hq : q < m.segs.length
  · have h1 : q < (List.range m.segs.length).length := by simpa using hq
    rw [List.getElem?_eq_getElem h1, List.getElem_range, Option.map_some, List.getElem?_eq_getElem hq]
    congr 1
    have e : (bytesM m).drop (24 + 40 * q) = (m.segs.drop q).flatMap segBytes := by
      rw [← List.drop_drop]
      have : (bytesM m).drop 24 = m.segs.flatMap segBytes := rfl
      rw [this, flat_drop]
    rw [e, List.drop_eq_getElem_cons hq, List.flatMap_cons]
    exact segOf_back (segOk_at hs (List.getElem?_eq_getElem hq))
  · rw [List.getElem?_eq_none (by simpa using hq), List.getElem?_eq_none (by omega)]; rfl
theorem parse_bytes {m : ManD} (h : mayM m = true) : okP (bytesM m) = true ∧ parseD (bytesM m) = m := by
  obtain ⟨h1, h2, h3, h4, h8, hs⟩ := may_of h
  have n1 : numAt (bytesM m) 4 = m.ver.toNat := num4_le4 (n := m.ver.toNat) (by omega)
  have n2 : numAt (bytesM m) 8 = m.sec.toNat := num4_le4 (n := m.sec.toNat) (by omega)
  have n3 : numAt (bytesM m) 12 = m.key.toNat := num4_le4 (n := m.key.toNat) (by omega)
  have n4 : numAt (bytesM m) 16 = m.ent.toNat := num4_le4 (n := m.ent.toNat) (by omega)
  have n5 : numAt (bytesM m) 20 = m.segs.length := num4_le4 (n := m.segs.length) (by omega)
  have hp : parseD (bytesM m) = m := by
    rcases m with ⟨ver, sec, key, ent, segs⟩
    simp only at h1 h2 h3 h4 n1 n2 n3 n4 n5
    unfold parseD
    rw [n1, n2, n3, n4, n5, segs_back (m := ⟨ver, sec, key, ent, segs⟩) hs, Int.toNat_of_nonneg h1.1, Int.toNat_of_nonneg h2.1, Int.toNat_of_nonneg h3.1, Int.toNat_of_nonneg h4.1]
  have hl := bytesM_len m
  refine ⟨?_, hp⟩
  have ht : (bytesM m).take 4 = [109, 97, 110, 105] := rfl
  simp only [okP, hp, h, ht, n5, hl, decide_true, Bool.and_true, Bool.and_eq_true, decide_eq_true_eq]
  omega
end Go.Proofs.Ythabomkcangegaa

/-
  Plain facts for ManifestLengths: a byte less, a byte more.
-/
import Derived.Test.YthabomkcangegaaMG
namespace Go.Proofs.Ythabomkcangegaa
open Go Go.Sl Go.RowKit
theorem numAt_take' {l : List UInt8} {n i : Nat} (h : i + 4 ≤ n) : numAt (l.take n) i = numAt l i := by
  simp only [numAt]
  rw [bAt_take (by omega), bAt_take (by omega), bAt_take (by omega), bAt_take (by omega)]
theorem num20 {m : ManD} (h : mayM m = true) : numAt (bytesM m) 20 = m.segs.length := by
  obtain ⟨_, _, _, _, h8, _⟩ := may_of h
  exact num4_le4 (n := m.segs.length) (by omega)
theorem okP_less {m : ManD} (h : mayM m = true) : okP ((bytesM m).take ((bytesM m).length - 1)) = false := by
  refine okP_no fun ⟨h1, _, _, h4, _⟩ => ?_
  have hl := bytesM_len m
  have hn := num20 h
  rw [List.length_take] at h1 h4
  have e : numAt ((bytesM m).take ((bytesM m).length - 1)) 20 = numAt (bytesM m) 20 := by
    have := numAt_take' (l := bytesM m) (n := (bytesM m).length - 1) (i := 20) (by omega)
    exact this
  rw [e, hn] at h4
  omega
theorem okP_more {m : ManD} (h : mayM m = true) (y : UInt8) : okP (bytesM m ++ [y]) = false := by
  refine okP_no fun ⟨_, _, _, h4, _⟩ => ?_
  have hl := bytesM_len m
  have hn := num20 h
  have e : numAt (bytesM m ++ [y]) 20 = numAt (bytesM m) 20 := rfl
  rw [e, hn] at h4
  simp only [List.length_append, List.length_singleton] at h4
  omega
end Go.Proofs.Ythabomkcangegaa

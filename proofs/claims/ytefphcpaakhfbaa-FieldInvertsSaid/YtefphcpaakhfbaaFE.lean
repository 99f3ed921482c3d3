/-
  The field's numbers as values; a difference's and a sum's words.
-/
import Derived.Test.YtefphcpaakhfbaaFM
namespace Go.Proofs.Ytefphcpaakhfbaa
open Go Go.Sl Go.RowKit Go.Fp
def w256 : Nat := 115792089237316195423570985008687907853269984665640564039457584007913129639936
/-- The words of a number. -/
def wd (n i : Nat) : Nat := n / w64 ^ i % w64
def elV (n : Nat) : List Value := [wv (wd n 0), wv (wd n 1), wv (wd n 2), wv (wd n 3)]
def elN (a b c d : Nat) : Nat := a + b * w64 + c * w64 ^ 2 + d * w64 ^ 3
theorem wd_lt (n i : Nat) : wd n i < w64 := Nat.mod_lt _ (by decide)
theorem elN_wd {n : Nat} (h : n < w256) : elN (wd n 0) (wd n 1) (wd n 2) (wd n 3) = n := by
  simp only [elN, wd, w64, w256] at *
  omega
theorem elN_lt {a b c d : Nat} (ha : a < w64) (hb : b < w64) (hc : c < w64) (hd : d < w64) : elN a b c d < w256 := by
  simp only [elN, w64, w256] at *
  omega
theorem elV_N {a b c d : Nat} (ha : a < w64) (hb : b < w64) (hc : c < w64) (hd : d < w64) : elV (elN a b c d) = [wv a, wv b, wv c, wv d] := by
  have h0 : wd (elN a b c d) 0 = a := by simp only [wd, elN, w64] at *; omega
  have h1 : wd (elN a b c d) 1 = b := by simp only [wd, elN, w64] at *; omega
  have h2 : wd (elN a b c d) 2 = c := by simp only [wd, elN, w64] at *; omega
  have h3 : wd (elN a b c d) 3 = d := by simp only [wd, elN, w64] at *; omega
  simp only [elV, h0, h1, h2, h3]
/-- A difference's word and what it borrows. -/
def sbw (x y c : Nat) : Nat := (x + w64 - y - c) % w64
def sbc (x y c : Nat) : Nat := if x < y + c then 1 else 0
theorem sbc_le (x y c : Nat) : sbc x y c ≤ 1 := by unfold sbc; split <;> omega
theorem sb_eq {x y c : Nat} (hx : x < w64) (hy : y < w64) (hc : c ≤ 1) : x + w64 * sbc x y c = y + c + sbw x y c ∧ sbw x y c < w64 := by
  unfold sbc sbw
  simp only [w64] at *
  split <;> omega
/-- A sum's word and what it carries. -/
def acw (x y c : Nat) : Nat := (x + y + c) % w64
def acc (x y c : Nat) : Nat := (x + y + c) / w64
theorem acc_le {x y c : Nat} (hx : x < w64) (hy : y < w64) (hc : c ≤ 1) : acc x y c ≤ 1 := by
  unfold acc; simp only [w64] at *; omega
theorem ac_eq (x y c : Nat) : x + y + c = acw x y c + w64 * acc x y c ∧ acw x y c < w64 := by
  unfold acw acc; simp only [w64] at *; omega
end Go.Proofs.Ytefphcpaakhfbaa

/-
  What Mul64's steps come to: the product's two words.
-/
import Derived.Test.YtefphcpaakhfbaaF1
namespace Go.Proofs.Ytefphcpaakhfbaa
open Go Go.Sl Go.RowKit Go.Fp
theorem mul_words {x y : Nat} (hx : x < w64) (hy : y < w64) :
    ((((x / 2 ^ 32) * (y / 2 ^ 32) % w64 + (((x / 2 ^ 32) * (y % 2 ^ 32) % w64 + ((x % 2 ^ 32) * (y % 2 ^ 32) % w64) / 2 ^ 32) % w64) / 2 ^ 32) % w64 + ((((((x / 2 ^ 32) * (y % 2 ^ 32) % w64 + ((x % 2 ^ 32) * (y % 2 ^ 32) % w64) / 2 ^ 32) % w64) % 2 ^ 32 + (x % 2 ^ 32) * (y / 2 ^ 32) % w64) % w64) / 2 ^ 32)) % w64) = x * y / w64 := by
  simp only [w64] at *
  have hx1 : x / 2 ^ 32 ≤ 4294967295 := by omega
  have hy1 : y / 2 ^ 32 ≤ 4294967295 := by omega
  have hx0 : x % 2 ^ 32 ≤ 4294967295 := by omega
  have hy0 : y % 2 ^ 32 ≤ 4294967295 := by omega
  have b1 : (x / 2 ^ 32) * (y / 2 ^ 32) ≤ 4294967295 * 4294967295 := Nat.mul_le_mul hx1 hy1
  have b2 : (x / 2 ^ 32) * (y % 2 ^ 32) ≤ 4294967295 * 4294967295 := Nat.mul_le_mul hx1 hy0
  have b3 : (x % 2 ^ 32) * (y % 2 ^ 32) ≤ 4294967295 * 4294967295 := Nat.mul_le_mul hx0 hy0
  have b4 : (x % 2 ^ 32) * (y / 2 ^ 32) ≤ 4294967295 * 4294967295 := Nat.mul_le_mul hx0 hy1
  have e : x * y = (x / 2 ^ 32) * (y / 2 ^ 32) * 18446744073709551616 + ((x / 2 ^ 32) * (y % 2 ^ 32) + (x % 2 ^ 32) * (y / 2 ^ 32)) * 4294967296 + (x % 2 ^ 32) * (y % 2 ^ 32) := by
    have e1 : x = (x / 2 ^ 32) * 4294967296 + x % 2 ^ 32 := by omega
    have e2 : y = (y / 2 ^ 32) * 4294967296 + y % 2 ^ 32 := by omega
    generalize x / 2 ^ 32 = a at *
    generalize x % 2 ^ 32 = b at *
    generalize y / 2 ^ 32 = c at *
    generalize y % 2 ^ 32 = d at *
    subst e1; subst e2
    grind
  rw [e]
  generalize (x / 2 ^ 32) * (y / 2 ^ 32) = p at *
  generalize (x / 2 ^ 32) * (y % 2 ^ 32) = q at *
  generalize (x % 2 ^ 32) * (y % 2 ^ 32) = r at *
  generalize (x % 2 ^ 32) * (y / 2 ^ 32) = s at *
  omega
theorem mul64_is {x y : Nat} {w : World} (hx : x < w64) (hy : y < w64) : FnAt Try.prog 46 [wv x, wv y] [] w (Ret fun v N => v = .tuple #[wv (x * y / w64), wv (x * y % w64)] ∧ N = []) := by
  have h := mul64_raw (w := w) hx hy
  rw [mul_words hx hy] at h
  exact h
end Go.Proofs.Ytefphcpaakhfbaa

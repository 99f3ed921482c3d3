/-
  2^255 - 19 is prime; the field of that many elements: inverses, squares, roots.
-/
import Derived.Test.YtefphcpaakhfbaaPA
namespace Go.Fp

def P : Nat := 57896044618658097711785492504343953926634992332820282019728792003956564819949
theorem pr0 : Pr 8574133 := prime_trial (f := 2930) (by decide) (by decide +kernel) (by decide)
theorem pr1 : Pr 1919519569386763 := prime_pock pr0 1059928654987441 5 24 (by decide) (by decide +kernel)
theorem pr2 : Pr 75445702479781427272750846543864801 := prime_pock pr1 56747016255153332959347766392083459 143 51 (by decide) (by decide +kernel)
theorem pr3 : Pr 74058212732561358302231226437062788676166966415465897661863160754340907 := prime_pock pr2 69490809710348678725736597923071784769591275419387514694139338586948360 3 116 (by decide) (by decide +kernel)
theorem pr4 : Pr P := prime_pock pr3 427094198651976259540344842774561673889945192655078505504941250475370961481 0 236 (by decide) (by decide +kernel)

theorem P_pos : 0 < P := by decide
end Go.Fp

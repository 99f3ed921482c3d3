/-
  Words of the field's numbers; what Add64 and Sub64 answer.
-/
import Derived.Test.YtefphcpaakhfbaaSlH
import Derived.Test.YtefphcpaakhfbaaSlG
import Derived.Test.YtefphcpaakhfbaaRows
import Derived.Laws.Externs
import Derived.Test.YtefphcpaakhfbaaPC
namespace Go.Proofs.Ytefphcpaakhfbaa
open Go Go.Sl Go.RowKit Go.Fp

def w64 : Nat := 18446744073709551616
theorem add64_is (x y c : Nat) (hc : c ≤ 1) (w : World) : (callFunc 43 [wv x, wv y, wv c].toArray).run Try.prog w = .ok (.value (.tuple [wv ((x + y + c) % w64), wv ((x + y + c) / w64)].toArray)) w := by
  rw [run_callFunc_extern (e := add64Entry) Try.func43 (by kernel_rfl) (by kernel_rfl) (by kernel_rfl) (by kernel_rfl)]
  have h := run_add64 (P := Try.prog) (x : Int) (y : Int) (c : Int) (by omega) (by omega) (by omega) (by omega) w
  show Result.andThen ((add64Entry #[.int .u64 (x : Int), .int .u64 (y : Int), .int .u64 (c : Int)]).run Try.prog w) _ = _
  rw [h]
  simp only [Result.andThen_ok, wv, w64]
  congr 4
def sub64Entry : Array Value → Sem Value := fun args => do
  let (x, y, b) ← Extern.MathBitsCarry.three "Sub64" args
  pure (Extern.MathBitsCarry.pair ((x + Extern.MathBitsCarry.m64 - y - b) % Extern.MathBitsCarry.m64) (if x < y + b then 1 else 0))
theorem sub64_is (x y c : Nat) (hc : c ≤ 1) (w : World) : (callFunc 47 [wv x, wv y, wv c].toArray).run Try.prog w = .ok (.value (.tuple [wv ((x + w64 - y - c) % w64), wv (if x < y + c then 1 else 0)].toArray)) w := by
  rw [run_callFunc_extern (e := sub64Entry) Try.func47 (by kernel_rfl) (by kernel_rfl) (by kernel_rfl) (by kernel_rfl)]
  have h : (sub64Entry #[.int .u64 (x : Int), .int .u64 (y : Int), .int .u64 (c : Int)]).run Try.prog w = .ok (Extern.MathBitsCarry.pair ((x + w64 - y - c) % w64) (if x < y + c then 1 else 0)) w := by
    have : c = 0 ∨ c = 1 := by omega
    rcases this with rfl | rfl <;> rfl
  show Result.andThen ((sub64Entry #[.int .u64 (x : Int), .int .u64 (y : Int), .int .u64 (c : Int)]).run Try.prog w) _ = _
  rw [h]
  rfl
end Go.Proofs.Ytefphcpaakhfbaa

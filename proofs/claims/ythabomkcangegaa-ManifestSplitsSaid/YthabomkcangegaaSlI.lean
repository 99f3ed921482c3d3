/-
  Strings put together.
-/
import Derived.Test.YthabomkcangegaaSlC
namespace Go.Sl
open Go Go.RowKit
theorem bytes_append (l m : List UInt8) : (⟨l.toArray⟩ : ByteArray) ++ ⟨m.toArray⟩ = ⟨(l ++ m).toArray⟩ := by
  apply ByteArray.ext
  simp
theorem Y_addstr {P : Program} {n : Nat} {D : List Deferred} {X : List Nat} {w0 : World} {E : Env} {M : List Blk} {tt t ty : TypeId} {x y : Operand} {l m : List UInt8} (hx : ev E x = some (.string ⟨l.toArray⟩)) (hy : ev E y = some (.string ⟨m.toArray⟩)) (h : l.length + m.length ≤ 1000000) :
    Yl P n D X w0 E M (.binOp .add t x y ty) tt (.string ⟨(l ++ m).toArray⟩) := fun a w s d pos af g => by
  simp only [execOp, s.1.ev hx, s.1.ev hy]
  have hm : ¬ (((⟨l.toArray⟩ : ByteArray).size + (⟨m.toArray⟩ : ByteArray).size : Nat) : Int) > IntKind.i64.max := by
    have e : IntKind.i64.max = 9223372036854775807 := by decide
    have e1 : (⟨l.toArray⟩ : ByteArray).size = l.length := by simp [ByteArray.size]
    have e2 : (⟨m.toArray⟩ : ByteArray).size = m.length := by simp [ByteArray.size]
    rw [e, e1, e2]; omega
  simp only [eqGuard, binOp, Op.stringOp, hm, bytes_append, if_false, Sem.run_bind]
  rfl
end Go.Sl

/-
  Rules inside a deferred call: recover.
-/
import Derived.Test.YthabomkcangegaaSlR
namespace Go.Sl
open Go Go.RowKit
section
variable (P : Program) (n : Nat) (D : List Deferred) (X : List Nat) (w0 : World)
def GS (Q : Exit → Act → List Frame → World → Prop) (ops : Array Oper) (l : List Nat) (cs : List Frame) (E : Env) (M : List Blk) : Prop := ∀ a w, St n D X w0 E M a w → wpOpsS P ops Q l a cs w
end
section
variable {P : Program} {n : Nat} {D : List Deferred} {X : List Nat} {w0 : World} {Q : Exit → Act → List Frame → World → Prop} {E : Env} {M : List Blk} {ops : Array Oper} {l : List Nat} {cs : List Frame}
theorem GS_nil (h : ∀ a w, St n D X w0 E M a w → Q .normal a cs w) : GS P n D X w0 Q ops [] cs E M := fun a w s => h a w s
theorem GS_y {i : Nat} {d : Tmp} {op : Op} {tt : TypeId} {pos : String} {af : Array Edge} {g : Option (Nat × Bool)} {v : Value} (hi : ops[i]? = some ⟨some d, op, tt, pos, af, g⟩) (hw : wantG ops E g = some true) (hd : Nat.blt d n = true)
    (hy : Yl P n D X w0 E M op tt v) (k : GS P n D X w0 Q ops l cs ((d, v) :: E) M) : GS P n D X w0 Q ops (i :: l) cs E M := fun a w s => by
  unfold wpOpsS
  rw [hi]
  simp only
  rw [if_pos (wantG_ok (o := ⟨some d, op, tt, pos, af, g⟩) s.1 hw), hy a w s]
  exact k _ _ ⟨s.1.put (dst := some d) hd v, s.2⟩
theorem GS_w {i : Nat} {d : Tmp} {op : Op} {tt : TypeId} {pos : String} {af : Array Edge} {g : Option (Nat × Bool)} (hi : ops[i]? = some ⟨some d, op, tt, pos, af, g⟩) (hw : wantG ops E g = some true) (hd : Nat.blt d n = true)
    (hy : Wr P n D X w0 E M op tt fun v M' => GS P n D X w0 Q ops l cs ((d, v) :: E) M') : GS P n D X w0 Q ops (i :: l) cs E M := fun a w s => by
  unfold wpOpsS
  rw [hi]
  simp only
  obtain ⟨v, w', M', hrun, hs, k⟩ := hy a w s (some d) pos af g
  rw [if_pos (wantG_ok (o := ⟨some d, op, tt, pos, af, g⟩) s.1 hw), hrun]
  exact k _ _ ⟨s.1.put (dst := some d) hd v, hs⟩
theorem GS_s {i : Nat} {op : Op} {tt : TypeId} {pos : String} {af : Array Edge} {g : Option (Nat × Bool)} {M' : List Blk} (hi : ops[i]? = some ⟨none, op, tt, pos, af, g⟩) (hw : wantG ops E g = some true)
    (hy : Sr P n D X w0 E M op tt M') (k : GS P n D X w0 Q ops l cs E M') : GS P n D X w0 Q ops (i :: l) cs E M := fun a w s => by
  unfold wpOpsS
  rw [hi]
  simp only
  obtain ⟨w', hrun, hs⟩ := hy a w s none pos af g
  rw [if_pos (wantG_ok (o := ⟨none, op, tt, pos, af, g⟩) s.1 hw), hrun]
  exact k _ _ ⟨s.1, hs⟩
/-- 'recover()': v: what it yields; cs': the frames behind. -/
theorem GS_rec {i : Nat} {d : Tmp} {tt : TypeId} {pos : String} {af : Array Edge} {g : Option (Nat × Bool)} {v : Value} {cs' : List Frame} (hi : ops[i]? = some ⟨some d, .call ⟨.builtin .recover, #[], #[]⟩, tt, pos, af, g⟩) (hw : wantG ops E g = some true) (hd : Nat.blt d n = true)
    (hr : recoverD cs = some (v, cs') ∨ (recoverD cs = none ∧ v = .nilIface ∧ cs' = cs)) (k : GS P n D X w0 Q ops l cs' ((d, v) :: E) M) : GS P n D X w0 Q ops (i :: l) cs E M := fun a w s => by
  unfold wpOpsS
  rw [hi]
  simp only
  have hrun : (execOp a.eval ⟨some d, .call ⟨.builtin .recover, #[], #[]⟩, tt, pos, af, g⟩).run P w = .ok .recover w := by
    simp [execOp, resolve, invoke, builtin]
  rw [if_pos (wantG_ok (o := ⟨some d, .call ⟨.builtin .recover, #[], #[]⟩, tt, pos, af, g⟩) s.1 hw), hrun]
  rcases hr with h | ⟨h, rfl, rfl⟩
  · simp only [h]
    exact k _ _ ⟨s.1.put (dst := some d) hd v, s.2⟩
  · simp only [h]
    exact k _ _ ⟨s.1.put (dst := some d) hd .nilIface, s.2⟩
variable {tt : TypeId}
/-- x.(T), with its ok, of an interface value that holds a T; of nil. -/
theorem Y_assertYes {t ty : TypeId} {fs : Array Field} {x : Operand} {v : Value} (ht : P.underlying t = some (.struct fs)) (hx : ev E x = some (.iface t v)) : Yl P n D X w0 E M (.typeAssert x ty t true) tt (.tuple #[v, .bool true]) := fun a w s d pos af g => by
  simp [execOp, s.1.ev hx, Instr.typeAssert, run_underlying ht]
theorem Y_assertNil {t ty : TypeId} {fs : Array Field} {x : Operand} {z : Value} (ht : P.underlying t = some (.struct fs)) (hz : ∀ w, (zeroValue t).run P w = .ok z w) (hx : ev E x = some .nilIface) : Yl P n D X w0 E M (.typeAssert x ty t true) tt (.tuple #[z, .bool false]) := fun a w s d pos af g => by
  simp [execOp, s.1.ev hx, Instr.typeAssert, run_underlying ht, hz]
end
end Go.Sl

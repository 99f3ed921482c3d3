/-
  More rules: a slot's value told otherwise, blocks in another order, a cut behind an if; panics, a deferred call.
-/
import Derived.Test.YtefphcpaakhfbaaSlF
import Derived.Recover
namespace Go.Sl
open Go Go.RowKit
theorem Pick.under {M A R : List Blk} (h : Pick M A R) : ∀ N : List Blk, Pick (N ++ M) A (N ++ R)
  | [] => h
  | _ :: N => (Pick.under h N).skip
theorem SL.ne2 {X : List Nat} {M M2 : List Blk} {k1 k2 : Blk} {w0 w : World} (s : SL X M w0 w) (h : Pick M [k1, k2] M2) : k1.b ≠ k2.b := by
  have := (s.pick h).nodup
  simpa using this
theorem SL.right {X : List Nat} {A M : List Blk} {w0 w : World} (s : SL X (A ++ M) w0 w) : SL X M w0 w := (s.perm List.perm_append_comm).left
theorem Yl.as {P : Program} {n : Nat} {D : List Deferred} {X : List Nat} {w0 : World} {E : Env} {M : List Blk} {op : Op} {tt : TypeId} {v : Value} (v' : Value) (h : Yl P n D X w0 E M op tt v) (e : v = v') : Yl P n D X w0 E M op tt v' := e ▸ h
section
variable {P : Program} {n : Nat} {D : List Deferred} {X : List Nat} {w0 : World} {Q : Exit → Act → World → Prop} {E : Env} {M : List Blk} {ops : Array Oper} {l : List Oper} {tt : TypeId}
theorem GL_perm (M' : List Blk) (hp : M.Perm M') (h : GL P n D X w0 Q ops l E M') : GL P n D X w0 Q ops l E M := fun a w s => h a w ⟨s.1, s.2.perm hp⟩
theorem G_blk {c : Code} {b t tot : Nat} {xs ys : List Value} {fr : Nat × Nat} {M' : List Blk} (e : xs = ys) (h : G P n D X w0 Q c E (⟨b, t, tot, ys, fr⟩ :: M')) : G P n D X w0 Q c E (⟨b, t, tot, xs, fr⟩ :: M') := e ▸ h
theorem G_blk2 {c : Code} {b t tot : Nat} {xs ys : List Value} {fr : Nat × Nat} {k : Blk} {M' : List Blk} (e : xs = ys) (h : G P n D X w0 Q c E (k :: ⟨b, t, tot, ys, fr⟩ :: M')) : G P n D X w0 Q c E (k :: ⟨b, t, tot, xs, fr⟩ :: M') := e ▸ h
theorem GL_perm_G {c : Code} (M' : List Blk) (hp : M.Perm M') (h : G P n D X w0 Q c E M') : G P n D X w0 Q c E M := fun a w s => h a w ⟨s.1, s.2.perm hp⟩
theorem St.set {a : Act} {w : World} (s : St n D X w0 E M a w) (d : Nat) {v : Value} (hg : Env.get E d = some v) : St n D X w0 ((d, v) :: E) M a w := by
  refine ⟨⟨s.1.size, s.1.defers, fun t u hu => ?_⟩, s.2⟩
  simp only [Env.get] at hu
  cases hb : Nat.beq d t with
  | true =>
    rw [hb] at hu
    have : d = t := Nat.eq_of_beq_eq_true hb
    subst this
    simp at hu
    subst hu
    exact s.1.get d _ hg
  | false => rw [hb] at hu; exact s.1.get t u hu
theorem GL_set (d : Nat) {v : Value} (v' : Value) (hg : Env.get E d = some v) (e : v = v') (h : GL P n D X w0 Q ops l ((d, v') :: E) M) : GL P n D X w0 Q ops l E M := fun a w s => by
  subst e; exact h a w (s.set d hg)
theorem G_then_cut {ι : Type} (I : ι → Prop) (Ei : ι → Env) (Mi : ι → List Blk) {x y : Code}
    (h1 : G P n D X w0 (Exit.then (Fam n D X w0 I Ei Mi) Q) x E M) (h2 : ∀ i, I i → G P n D X w0 Q y (Ei i) (Mi i)) : G P n D X w0 (Exit.then (y.wp P Q) Q) x E M := fun a w s => by
  refine Code.wp_mono (fun e a w q => ?_) (h1 a w s)
  cases e with
  | normal => obtain ⟨j, hI, st⟩ := q; exact h2 j hI a w st
  | _ => exact q

/-! ## Panics -/
theorem Y_iface {t : TypeId} {fs : Array Field} {x : Operand} {v : Value} (ht : P.underlying t = some (.struct fs)) (hx : ev E x = some v) : Yl P n D X w0 E M (.makeInterface t x) tt (.iface t v) := fun a w s d pos af g => by
  simp [execOp, s.1.ev hx, Instr.makeInterface, run_underlying ht]
theorem GL_panic {d : Option Tmp} {x : Operand} {pos : String} {af : Array Edge} {g : Option (Nat × Bool)} {t : TypeId} {v : Value} (hw : wantG ops E g = some true) (hx : ev E x = some (.iface t v))
    (k : R n D X w0 Q (.panic [{ v := .iface t v, recovered := false }]) E M) : GL P n D X w0 Q ops (⟨d, .panic x, tt, pos, af, g⟩ :: l) E M := fun a w s => by
  unfold wpList
  rw [if_pos (wantG_ok (o := ⟨d, .panic x, tt, pos, af, g⟩) s.1 hw)]
  refine .inl ?_
  unfold Oper.wp
  have hrun : (execOp a.eval ⟨d, .panic x, tt, pos, af, g⟩).run P w = .halt (.panic (.iface t v)) w := by
    simp [execOp, s.1.ev hx, Instr.panic, goPanic]
  rw [hrun]
  exact k a w s
/-- 'defer f()' of a closure. -/
theorem GL_defer {x : Operand} {pos : String} {af : Array Edge} {g : Option (Nat × Bool)} {f : FuncId} {cap : List Value} (hw : wantG ops E g = some true) (hx : ev E x = some (.func (.func f) #[] cap.toArray))
    (k : GL P n ({ target := .fn (.func f) cap.toArray, args := #[] } :: D) X w0 Q ops l E M) : GL P n D X w0 Q ops (⟨none, .defer ⟨.value x, #[], #[]⟩, tt, pos, af, g⟩ :: l) E M := fun a w s => by
  unfold wpList
  rw [if_pos (wantG_ok (o := ⟨none, .defer ⟨.value x, #[], #[]⟩, tt, pos, af, g⟩) s.1 hw)]
  refine .inl ?_
  unfold Oper.wp
  have hrun : (execOp a.eval ⟨none, .defer ⟨.value x, #[], #[]⟩, tt, pos, af, g⟩).run P w = .ok (.defer { target := .fn (.func f) cap.toArray, args := #[] }) w := by
    simp [execOp, resolve, s.1.ev hx, Deferred.ofValue]
  rw [hrun]
  exact k _ _ ⟨⟨s.1.size, by simp [Act.put, s.1.defers], s.1.get⟩, s.2⟩
/-- The post of the body of a function that defers. -/
def fnQD (P : Program) (fn : Func) (X : List Nat) (w0 : World) (Post : Ending → List Blk → Prop) : Exit → Act → World → Prop :=
  bodyPostD P fn fun e w' => ∃ N, Post e N ∧ SL X N w0 w'
theorem FnAt.introD {f : FuncId} {fn : Func} {c : Code} {args : List Value} {A : List Blk} {w : World} {Post : Ending → List Blk → Prop} (hf : P.funcs[f]? = some fn) (hb : fn.body = some c)
    (hn : fn.ntmps = n) (hl : Nat.ble args.length n = true) (E : Env) (hE : argEnv 0 args = E)
    (h : G P n [] (A.map (·.b)) w (fnQD P fn (A.map (·.b)) w Post) c E A) : FnAt P f args A w Post := fun s => by
  subst hn; subst hE
  have hl' : args.length ≤ fn.ntmps := by simpa using Nat.le_of_ble_eq_true hl
  refine calls_of_wp_defers hf hb (h _ _ ⟨⟨by simp; omega, rfl, fun t v hv => ?_⟩, s⟩)
  obtain ⟨_, h2⟩ := argEnv_get args 0 t v hv
  simp only [Nat.sub_zero] at h2
  have hlt : t < args.length := by
    rcases Nat.lt_or_ge t args.length with h | h
    · exact h
    · rw [List.getElem?_eq_none h] at h2; cases h2
  rw [Array.getElem?_append_left (by simpa using hlt)]
  simpa using h2
end
end Go.Sl

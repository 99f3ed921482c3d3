/-
  catch: a closure's panic is caught.
-/
import Derived.Test.YthabomkcangegaaM2
import Derived.Test.YthabomkcangegaaSlD
namespace Go.Proofs.Ythabomkcangegaa
open Go Go.Sl Go.RowKit

theorem zero61 (w : World) : (zeroValue 61).run Try.prog w = .ok (.agg #[]) w := by kernel_rfl
theorem zr61 : TZero Try.prog 61 [] := by unfold TZero; kernel_rfl
theorem ag61 : TAgg Try.prog 61 0 := ⟨_, Try.underlying61, rfl, by kernel_rfl⟩
theorem catch1_walk {b2 : Nat} {x : Bool} {X : List Nat} {N : List Blk} {w0 w : World} {u u' : FrameMode} {r : Bool} (s : SL X (⟨b2, 4, 1, [.bool x], (0, 0)⟩ :: N) w0 w)
    (hu : (u = .returning ∧ u' = .returning ∧ r = x) ∨ (u = .panicking [badE] ∧ u' = .panicking [{ badE with recovered := true }] ∧ r = false)) :
    CallsD Try.prog 28 #[.pointer (some ⟨b2, 0, none⟩)] u w fun e v w' => (∃ q, e = .returned q) ∧ v = u' ∧ SL X (⟨b2, 4, 1, [.bool r], (0, 0)⟩ :: N) w0 w' := by
  refine callsD_of_wpS Try.func28 rfl fun c₀ cs hc => ?_
  have st : St 9 [] X w0 [(0, .pointer (some ⟨b2, 0, none⟩))] (⟨b2, 4, 1, [.bool x], (0, 0)⟩ :: N) { tmps := #[.pointer (some ⟨b2, 0, none⟩)] ++ Array.replicate (Try.f28.ntmps - #[Value.pointer (some ⟨b2, 0, none⟩)].size) undef, defers := [] } w := by
    refine ⟨⟨by rw [Try.ntmps28]; rfl, rfl, fun t v hv => ?_⟩, s⟩
    simp only [Env.get] at hv
    cases hb : Nat.beq 0 t with
    | false => rw [hb] at hv; simp at hv
    | true =>
      rw [hb] at hv
      have : 0 = t := Nat.eq_of_beq_eq_true hb
      subst this
      simp at hv; subst hv
      simp
  have fin : ∀ (cs' : List Frame), cs' = { c₀ with mode := u' } :: cs → ∀ (a' : Act) (w' : World) (E' : Env) (M' : List Blk), St 9 [] X w0 E' M' a' w' → (∃ M2, Pick M' (⟨b2, 4, 1, [.bool r], (0, 0)⟩ :: N) M2) →
      bodyPostS Try.prog Try.f28 c₀ cs (fun e v w' => (∃ q, e = .returned q) ∧ v = u' ∧ SL X (⟨b2, 4, 1, [.bool r], (0, 0)⟩ :: N) w0 w') .normal a' cs' w' := by
    intro cs' hcs a' w' E' M' s' ⟨M2, hp⟩
    refine ⟨s'.1.defers, u', hcs, _, Res.results (fn := Try.f28) (vs := []) (E := E') (M := M') ?_ s', ⟨_, rfl⟩, rfl, s'.2.pick hp⟩
    exact .nil
  refine wpS_seq (wpS_region ?_)
  rcases hu with ⟨rfl, rfl, rfl⟩ | ⟨rfl, rfl, rfl⟩
  · have hcs : c₀ :: cs = { c₀ with mode := .returning } :: cs := by rw [← hc]
    refine (show GS Try.prog 9 [] X w0 _ _ [0, 1, 2, 3, 4, 5, 6, 7] _ [(0, .pointer (some ⟨b2, 0, none⟩))] (⟨b2, 4, 1, [.bool r], (0, 0)⟩ :: N) from ?_) _ _ st
    refine GS_rec rfl rfl rfl (.inr ⟨by simp [recoverD, hc], rfl, rfl⟩) ?_
    refine GS_y rfl rfl rfl (Y_assertNil Try.underlying61 zero61 rfl) ?_
    refine GS_y rfl rfl rfl (Y_move rfl) ?_
    refine GS_y rfl rfl rfl (Y_extract rfl rfl) ?_
    refine GS_y rfl rfl rfl (Y_extract rfl rfl) ?_
    refine GS_w rfl rfl rfl (W_alloc zr61 fun b1 => ?_)
    refine GS_s rfl rfl (S_all rfl (ys := []) rfl ag61 rfl rfl .head rfl) ?_
    refine GS_y rfl rfl rfl (Y_assign rfl) ?_
    refine GS_nil fun a' w' s' => ?_
    refine wpS_of_wp ((show G Try.prog 9 [] X w0 _ _ _ _ from ?_) _ _ s')
    refine G_seq ?_
    refine G_region ?_
    refine GL_y rfl rfl (Y_move rfl) ?_
    refine GL_nil (R_seq ?_)
    refine G_cond_f rfl rfl ?_
    refine G_skip fun a w s => ?_
    exact fin _ hcs a w _ _ s ⟨_, Pick.skip (Pick.rfl' _)⟩
  · refine (show GS Try.prog 9 [] X w0 _ _ [0, 1, 2, 3, 4, 5, 6, 7] _ [(0, .pointer (some ⟨b2, 0, none⟩))] (⟨b2, 4, 1, [.bool x], (0, 0)⟩ :: N) from ?_) _ _ st
    refine GS_rec (v := .iface 61 (.agg #[])) (cs' := { c₀ with mode := .panicking [{ badE with recovered := true }] } :: cs) rfl rfl rfl (.inl (by simp [recoverD, hc, badE])) ?_
    refine GS_y rfl rfl rfl (Y_assertYes Try.underlying61 rfl) ?_
    refine GS_y rfl rfl rfl (Y_move rfl) ?_
    refine GS_y rfl rfl rfl (Y_extract rfl rfl) ?_
    refine GS_y rfl rfl rfl (Y_extract rfl rfl) ?_
    refine GS_w rfl rfl rfl (W_alloc zr61 fun b1 => ?_)
    refine GS_s rfl rfl (S_all rfl (ys := []) rfl ag61 rfl rfl .head rfl) ?_
    refine GS_y rfl rfl rfl (Y_assign rfl) ?_
    refine GS_nil fun a' w' s' => ?_
    refine wpS_of_wp ((show G Try.prog 9 [] X w0 _ _ _ _ from ?_) _ _ s')
    refine G_seq ?_
    refine G_region ?_
    refine GL_y rfl rfl (Y_move rfl) ?_
    refine GL_nil (R_seq ?_)
    refine G_cond_t rfl rfl ?_
    refine G_region ?_
    refine GL_s rfl (S_sc rfl sc4 rfl rfl (.tail .head) rfl) ?_
    refine GL_nil fun a w s => ?_
    exact fin _ rfl a w _ _ s ⟨_, .cons .head (Pick.skip (Pick.rfl' _))⟩
theorem catch_leave {b2 : Nat} {x r : Bool} {X : List Nat} {N : List Blk} {w0 w : World} {u u' : FrameMode} {a : Act} {E : Env} {D : List Deferred} {Post : Ending → List Blk → Prop}
    (s : St 6 D X w0 E (⟨b2, 4, 1, [.bool x], (0, 0)⟩ :: N) a w) (hE : Env.get E 2 = some (.pointer (some ⟨b2, 0, none⟩)))
    (hu : (u = .returning ∧ u' = .returning ∧ r = x) ∨ (u = .panicking [badE] ∧ u' = .panicking [{ badE with recovered := true }] ∧ r = false)) (hp : Post (.returned (.bool r)) N) :
    Leaves Try.prog Try.f16 a.tmps (fun e w' => ∃ N, Post e N ∧ SL X N w0 w') [{ target := .fn (.func 28) #[.pointer (some ⟨b2, 0, none⟩)], args := #[] }] u w := by
  refine leaves_cons (f := 28) (args := #[.pointer (some ⟨b2, 0, none⟩)]) (by rcases hu with ⟨rfl, _⟩ | ⟨rfl, _⟩ <;> simp) (by simp [invoke, Try.call28]) ((catch1_walk s.2 hu).mono fun e v w' q => ?_)
  obtain ⟨⟨q, rfl⟩, rfl, s'⟩ := q
  have hset : settle v = .returning := by rcases hu with ⟨_, rfl, _⟩ | ⟨_, rfl, _⟩ <;> rfl
  show Leaves Try.prog Try.f16 a.tmps _ [] (settle v) w'
  rw [hset]
  have st' : St 6 D X w0 E (⟨b2, 4, 1, [.bool r], (0, 0)⟩ :: N) a w' := ⟨s.1, s'⟩
  exact ⟨_, Res.results (fn := Try.f16) (vs := [.bool r]) (.sc hE (.head _) sc4 .nil) st', N, hp, s'.tail⟩
theorem zr4 : TZero Try.prog 4 [.bool false] := by unfold TZero; kernel_rfl
theorem catch_is {g : FuncId} {cap : List Value} {A : List Blk} {w : World} {Post : Ending → List Blk → Prop} (hcall : ∀ vs w, (callFunc g vs).run Try.prog w = .ok (.enter g vs) w)
    (hg : ∀ w', SL (A.map (·.b)) A w w' → FnAt Try.prog g cap A w' Post) (hpost : ∀ e N, Post e N → (∃ r, e = .returned r) ∨ e = .panicked [badE]) :
    FnAt Try.prog 16 [.func (.func g) #[] cap.toArray] A w (Ret fun v N => ∃ e, Post e N ∧ ((∃ r, e = .returned r) ∧ v = .bool true ∨ e = .panicked [badE] ∧ v = .bool false)) := by
  refine FnAt.introD Try.func16 rfl Try.ntmps16 rfl _ rfl ?_
  repeat (with_reducible refine G_seq ?_)
  refine G_region ?_
  refine GL_w rfl rfl (W_alloc zr4 fun b2 => ?_)
  refine GL_nil ?_
  repeat (first | (with_reducible refine R_seq ?_) | (with_reducible refine G_seq ?_))
  refine G_region ?_
  refine GL_y rfl rfl (Y_makeFunc rfl rfl) ?_
  refine GL_defer (cap := [.pointer (some ⟨b2, 0, none⟩)]) rfl rfl ?_
  refine GL_nil ?_
  repeat (first | (with_reducible refine R_seq ?_) | (with_reducible refine G_seq ?_))
  refine G_region ?_
  refine GL_y rfl rfl (Y_move rfl) ?_
  refine GL_callP rfl rfl rfl rfl hcall (Pick.skip (Pick.rfl' A)) (fun w' hw => hg w' hw.tail) ?_ ?_ ?_
  · intro v N hN
    refine GL_nil ?_
    repeat (first | (with_reducible refine R_seq ?_) | (with_reducible refine G_seq ?_))
    refine GL_perm_G (⟨b2, 4, [Value.bool false].length, [.bool false], (0, 0)⟩ :: N) List.perm_append_comm ?_
    refine G_region ?_
    refine GL_s rfl (S_sc rfl sc4 rfl rfl .head rfl) ?_
    refine GL_nil ?_
    repeat (first | (with_reducible refine R_seq ?_) | (with_reducible refine G_seq ?_))
    refine G_ret fun a w s => ?_
    show Leaves Try.prog Try.f16 a.tmps _ a.defers .returning w
    rw [s.1.defers]
    exact catch_leave (x := true) (r := true) s rfl (.inl ⟨rfl, rfl, rfl⟩) ⟨_, hN, .inl ⟨⟨v, rfl⟩, rfl⟩⟩
  · intro c N hN
    repeat (with_reducible refine R_then_panic ?_)
    intro a w s
    rcases hpost _ _ hN with ⟨r, h⟩ | h
    · cases h
    · injection h with h
      subst h
      show Leaves Try.prog Try.f16 a.tmps _ a.defers (.panicking [badE]) w
      rw [s.1.defers]
      have s' : St 6 _ _ _ _ (⟨b2, 4, 1, [.bool false], (0, 0)⟩ :: N) a w := ⟨s.1, s.2.perm List.perm_append_comm⟩
      exact catch_leave (x := false) (r := false) s' rfl (.inr ⟨rfl, rfl, rfl⟩) ⟨_, hN, .inr ⟨rfl, rfl⟩⟩
  · intro N hN
    rcases hpost _ _ hN with ⟨r, h⟩ | h <;> cases h
end Go.Proofs.Ythabomkcangegaa

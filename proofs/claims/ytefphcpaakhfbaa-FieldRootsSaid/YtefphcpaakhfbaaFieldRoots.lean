/-
  FieldRoots, proved (FieldRootsSaid): whatever comes in: it returns true, and what came in reads as it did.
-/
import Derived.Test.YtefphcpaakhfbaaLF
import Derived.Test.YtefphcpaakhfbaaLI
namespace Go.Proofs.Ytefphcpaakhfbaa
open Go Go.Sl Go.RowKit Go.ChangeShapes Go.WideShapes Go.ChangeAt Go.Deep

set_option maxRecDepth 100000 in
theorem fieldRoots_lifted (os : Os) (started : os.Started) (H : Type) (enc : TypeId × Value → H) :
    ReturnsInHanded {} Try.checked os 5 .any (Rows.fieldRootsSpec.pre6 enc Try.prog Try.f5 Rows.fieldRootsRow.domain false) (Rows.fieldRootsSpec.post enc Try.prog Try.f5 false true false false) := by
  refine returnsInHanded_of_change (C := Try.checked) own started (by kernel_rfl) Try.func5
    (ChangeSpec.witness6 (enc := enc) (C := Try.checked) false ⟨#[], #[.agg (Array.replicate 32 (.int .u8 0))], []⟩ 8 (by kernel_rfl) (by kernel_rfl) (by kernel_rfl) (by kernel_rfl)) ?_
  intro W base args ds gs before hval0 hW hcnd _
  have hval : ∀ (j : Nat) t v, Try.f5.params[j]? = some t → args[j]? = some v → Value.okWide Try.prog W .any base t v := hval0
  have hW' := hW
  obtain ⟨p, q, hA0, hV, rfl, hfz, hnd⟩ := hW
  have hA : DataW.TrodAll enc Try.prog W 0 (fun _ => true) true Try.f5.params.toList args.toList ds p := hA0
  rw [Try.params5] at hA hval
  obtain ⟨v0, d0, rfl, rfl, h0⟩ := trodAll_one hA
  obtain ⟨rfl, rfl⟩ := trodVars_none hV
  simp only [List.append_nil] at hW'
  have hlt : ∀ y ∈ p, y.block < W.heap.size := fun y hy => hW'.lt y hy
  have h0k := h0
  obtain ⟨r0, hr0, rfl⟩ := open_arr (hval 0 22 v0 rfl rfl) h0
  refine (FnAt.calls (fieldRoots_is hr0)).mono fun e W' ⟨v, N, he, ⟨hv, _⟩, hB⟩ => ?_
  subst he; subst hv
  refine ⟨_, rfl, post_true (tb := 4) hW' rfl rfl rfl (by kernel_rfl) Try.underlying4 ?_ hB⟩
  rw [Try.params5]
  have hT := trodAll_mk1 (Below.trod laidOut (by kernel_rfl) (of_decide_eq_true (by kernel_rfl)) h0k hB hlt)
  try simp only [List.append_nil] at hT
  try simp only [List.append_nil]
  exact hT

theorem fieldRoots_holds : Rows.FieldRootsSaid :=
  OpenClaim.holds_of_wide 5 Try.f5 rfl rfl rfl rfl rfl rfl rfl ⟨rfl, rfl, rfl, rfl, rfl⟩ rfl rfl rfl rfl rfl (by kernel_rfl) Try.func5 (by kernel_rfl)
    (of_decide_eq_true (by kernel_rfl)) (by unfold Func.isWrapper; first | (rw [if_pos (by decide +kernel)]; kernel_rfl) | (rw [if_neg (by decide +kernel)]; exact ⟨rfl, rfl⟩))
    (fun os started H enc _ => fieldRoots_lifted os started H enc)
end Go.Proofs.Ytefphcpaakhfbaa

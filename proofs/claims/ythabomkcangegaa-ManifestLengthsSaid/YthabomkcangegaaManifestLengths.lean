/-
  ManifestLengths, proved (ManifestLengthsSaid): whatever comes in: it returns true, and what came in reads as it did.
-/
import Derived.Test.YthabomkcangegaaMF
import Derived.Test.YthabomkcangegaaMG1
namespace Go.Proofs.Ythabomkcangegaa
open Go Go.Sl Go.RowKit Go.ChangeShapes Go.WideShapes Go.ChangeAt Go.Deep

set_option maxRecDepth 100000 in
theorem manifestLengths_lifted (os : Os) (started : os.Started) (H : Type) (enc : TypeId × Value → H) :
    ReturnsInHanded {} Try.checked os 7 .any (Rows.manifestLengthsSpec.pre6 enc Try.prog Try.f7 Rows.manifestLengthsRow.domain false) (Rows.manifestLengthsSpec.post enc Try.prog Try.f7 false true false false) := by
  refine returnsInHanded_of_change (C := Try.checked) own started (by kernel_rfl) Try.func7
    (ChangeSpec.witness6 (enc := enc) (C := Try.checked) false ⟨#[], #[.agg #[.int .i64 0, .int .i64 0, .int .i64 0, .int .i64 0, .slice none 0 0], .int .u8 0], []⟩ 8 (by kernel_rfl) (by kernel_rfl) (by kernel_rfl) (by kernel_rfl)) ?_
  intro W base args ds gs before hval0 hW hcnd _
  have hval : ∀ (j : Nat) t v, Try.f7.params[j]? = some t → args[j]? = some v → Value.okWide Try.prog W .any base t v := hval0
  have hW' := hW
  obtain ⟨p, q, hA0, hV, rfl, hfz, hnd⟩ := hW
  have hA : DataW.TrodAll enc Try.prog W 0 (fun _ => true) true Try.f7.params.toList args.toList ds p := hA0
  rw [Try.params7] at hA hval
  obtain ⟨v0, v1, d0, d1, p0, p1, rfl, rfl, rfl, h0, h1⟩ := trodAll_two hA
  obtain ⟨rfl, rfl⟩ := trodVars_none hV
  simp only [List.append_nil] at hW'
  have hlt : ∀ y ∈ p0 ++ p1, y.block < W.heap.size := fun y hy => hW'.lt y hy
  have h0k := h0
  obtain ⟨m0, a0, c0, rfl, hs0, hc0⟩ := open_man (hval 0 24 v0 rfl rfl) h0
  have h1k := h1
  obtain ⟨x1, rfl, rfl, rfl, hw1⟩ := open_int Try.underlying5 (hval 1 5 v1 rfl rfl) h1
  obtain ⟨y1, hy1⟩ : ∃ y : UInt8, Value.int .u8 x1 = bv y := by
    obtain ⟨bs, hbs⟩ := bytes_of_ints [x1] (fun z hz => by simp at hz; subst hz; exact hw1)
    cases bs with
    | nil => simp [B] at hbs
    | cons y r => exact ⟨y, (List.cons.inj hbs).1⟩
  have hcall := manifestLengths_is (w := W) (c := c0) (y := y1) hs0
  rw [← hy1] at hcall
  refine (FnAt.calls (hcall)).mono fun e W' ⟨v, N, he, ⟨hv, _⟩, hB⟩ => ?_
  subst he; subst hv
  refine ⟨_, rfl, post_true (tb := 4) hW' rfl rfl rfl (by kernel_rfl) Try.underlying4 ?_ hB⟩
  rw [Try.params7]
  have hT := trodAll_mk2 (Below.trod laidOut (by kernel_rfl) (of_decide_eq_true (by kernel_rfl)) h0k hB (fun y hy => hlt y (by simp [hy]))) (Below.trod laidOut (by kernel_rfl) (of_decide_eq_true (by kernel_rfl)) h1k hB (fun y hy => by simp at hy))
  try simp only [List.append_nil] at hT
  try simp only [List.append_nil]
  exact hT

theorem manifestLengths_holds : Rows.ManifestLengthsSaid :=
  OpenClaim.holds_of_wide 7 Try.f7 rfl rfl rfl rfl rfl rfl rfl ⟨rfl, rfl, rfl, rfl, rfl⟩ rfl rfl rfl rfl rfl (by kernel_rfl) Try.func7 (by kernel_rfl)
    (of_decide_eq_true (by kernel_rfl)) (by unfold Func.isWrapper; first | (rw [if_pos (by decide +kernel)]; kernel_rfl) | (rw [if_neg (by decide +kernel)]; exact ⟨rfl, rfl⟩))
    (fun os started H enc _ => manifestLengths_lifted os started H enc)
end Go.Proofs.Ythabomkcangegaa

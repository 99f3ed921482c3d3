/-
  KeysBack, proved (KeysBackSaid): whatever comes in: it returns true, and what came in reads as it did.
-/
import Derived.Test.YtkdodpcafamhaaaKF
import Derived.Test.YtkdodpcafamhaaaKP
namespace Go.Proofs.Ytkdodpcafamhaaa
open Go Go.Sl Go.RowKit Go.ChangeShapes Go.WideShapes Go.ChangeAt Go.Deep

set_option maxRecDepth 100000 in
theorem keysBack_lifted (os : Os) (started : os.Started) (H : Type) (enc : TypeId × Value → H) :
    ReturnsInHanded {} Try.checked os 7 .any (Rows.keysBackSpec.pre6 enc Try.prog Try.f7 Rows.keysBackRow.domain false) (Rows.keysBackSpec.post enc Try.prog Try.f7 false true false false) := by
  refine returnsInHanded_of_change (C := Try.checked) own started (by kernel_rfl) Try.func7
    (ChangeSpec.witness6 (enc := enc) (C := Try.checked) false ⟨#[], #[.slice none 0 0, .slice none 0 0], []⟩ 8 (by kernel_rfl) (by kernel_rfl) (by kernel_rfl) (by kernel_rfl)) ?_
  intro W base args ds gs before hval0 hW hcnd _
  have hval : ∀ (j : Nat) t v, Try.f7.params[j]? = some t → args[j]? = some v → Value.okWide Try.prog W .any base t v := hval0
  have hW' := hW
  obtain ⟨p, q, hA0, hV, rfl, hfz, hnd⟩ := hW
  have hA : DataW.TrodAll enc Try.prog W 0 (fun _ => true) true Try.f7.params.toList args.toList ds p := hA0
  rw [Try.params7] at hA hval
  obtain ⟨v0, v1, d0, d1, p0, p1, rfl, rfl, rfl, h0, h1⟩ := trodAll_two hA
  obtain ⟨rfl, rfl⟩ := trodVars_none hV
  simp only [List.append_nil] at hW'
  have hlt : ∀ y ∈ p0 ++ p1, y.block < W.heap.size := fun y hy => hW'.lt y hy
  have h0k := h0
  obtain ⟨a0, l0, c0, rfl⟩ := okWide_slice Try.underlying22 (hval 0 22 v0 rfl rfl)
  obtain ⟨r0, rfl, hs0, hc0, _⟩ := open_ring h0
  have h1k := h1
  obtain ⟨a1, l1, c1, rfl⟩ := okWide_slice Try.underlying24 (hval 1 24 v1 rfl rfl)
  obtain ⟨r1, rfl, hs1, hc1, _⟩ := open_bytes_sl Try.underlying24 Try.underlying5 cells5 h1
  refine (FnAt.calls (keysBack_is (c := c0) (c2 := c1) hs0 hs1 hc1)).mono fun e W' ⟨v, N, he, ⟨hv, _⟩, hB⟩ => ?_
  subst he; subst hv
  refine ⟨_, rfl, post_true (tb := 4) hW' rfl rfl rfl (by kernel_rfl) Try.underlying4 ?_ hB⟩
  rw [Try.params7]
  have hT := trodAll_mk2 (Below.trod laidOut (by kernel_rfl) (of_decide_eq_true (by kernel_rfl)) h0k hB (fun y hy => hlt y (by simp [hy]))) (Below.trod laidOut (by kernel_rfl) (of_decide_eq_true (by kernel_rfl)) h1k hB (fun y hy => hlt y (by simp [hy])))
  try simp only [List.append_nil] at hT
  try simp only [List.append_nil]
  try simp only [← List.append_assoc] at hT
  exact hT

theorem keysBack_holds : Rows.KeysBackSaid :=
  OpenClaim.holds_of_wide 7 Try.f7 rfl rfl rfl rfl rfl rfl rfl ⟨rfl, rfl, rfl, rfl, rfl⟩ rfl rfl rfl rfl rfl (by kernel_rfl) Try.func7 (by kernel_rfl)
    (of_decide_eq_true (by kernel_rfl)) (by unfold Func.isWrapper; first | (rw [if_pos (by decide +kernel)]; kernel_rfl) | (rw [if_neg (by decide +kernel)]; exact ⟨rfl, rfl⟩))
    (fun os started H enc _ => keysBack_lifted os started H enc)
end Go.Proofs.Ytkdodpcafamhaaa

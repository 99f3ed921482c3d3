/-
  KeysRevoked, proved (KeysRevokedSaid): whatever comes in: it returns true, and what came in reads as it did.
-/
import Derived.Test.YtkdodpcafamhaaaKF
import Derived.Test.YtkdodpcafamhaaaK7
namespace Go.Proofs.Ytkdodpcafamhaaa
open Go Go.Sl Go.RowKit Go.ChangeShapes Go.WideShapes Go.ChangeAt Go.Deep

set_option maxRecDepth 100000 in
theorem keysRevoked_lifted (os : Os) (started : os.Started) (H : Type) (enc : TypeId × Value → H) :
    ReturnsInHanded {} Try.checked os 4 .any (Rows.keysRevokedSpec.pre6 enc Try.prog Try.f4 Rows.keysRevokedRow.domain false) (Rows.keysRevokedSpec.post enc Try.prog Try.f4 false true false false) := by
  refine returnsInHanded_of_change (C := Try.checked) own started (by kernel_rfl) Try.func4
    (ChangeSpec.witness6 (enc := enc) (C := Try.checked) false ⟨#[], #[.slice none 0 0, .slice none 0 0, .int .i64 0], []⟩ 8 (by kernel_rfl) (by kernel_rfl) (by kernel_rfl) (by kernel_rfl)) ?_
  intro W base args ds gs before hval0 hW hcnd _
  have hval : ∀ (j : Nat) t v, Try.f4.params[j]? = some t → args[j]? = some v → Value.okWide Try.prog W .any base t v := hval0
  have hW' := hW
  obtain ⟨p, q, hA0, hV, rfl, hfz, hnd⟩ := hW
  have hA : DataW.TrodAll enc Try.prog W 0 (fun _ => true) true Try.f4.params.toList args.toList ds p := hA0
  rw [Try.params4] at hA hval
  obtain ⟨v0, v1, v2, d0, d1, d2, p0, p1, p2, rfl, rfl, rfl, h0, h1, h2⟩ := trodAll_three hA
  obtain ⟨rfl, rfl⟩ := trodVars_none hV
  simp only [List.append_nil] at hW'
  have hlt : ∀ y ∈ p0 ++ p1 ++ p2, y.block < W.heap.size := fun y hy => hW'.lt y hy
  have h0k := h0
  obtain ⟨a0, l0, c0, rfl⟩ := okWide_slice Try.underlying22 (hval 0 22 v0 rfl rfl)
  obtain ⟨r0, rfl, hs0, hc0, _⟩ := open_ring h0
  have h1k := h1
  obtain ⟨a1, l1, c1, rfl⟩ := okWide_slice Try.underlying41 (hval 1 41 v1 rfl rfl)
  obtain ⟨r1, rfl, hs1, hc1, _⟩ := open_ints_sl Try.underlying41 Try.underlying3 cells3 h1
  have h2k := h2
  obtain ⟨x2, rfl, rfl, rfl, _⟩ := open_int Try.underlying3 (hval 2 3 v2 rfl rfl) h2
  refine (FnAt.calls (keysRevoked_is (x := x2) (c := c0) (nc := c1) hs0 hs1)).mono fun e W' ⟨v, N, he, ⟨hv, _⟩, hB⟩ => ?_
  subst he; subst hv
  refine ⟨_, rfl, post_true (tb := 4) hW' rfl rfl rfl (by kernel_rfl) Try.underlying4 ?_ hB⟩
  rw [Try.params4]
  have hT := trodAll_mk3 (Below.trod laidOut (by kernel_rfl) (of_decide_eq_true (by kernel_rfl)) h0k hB (fun y hy => hlt y (by simp [hy]))) (Below.trod laidOut (by kernel_rfl) (of_decide_eq_true (by kernel_rfl)) h1k hB (fun y hy => hlt y (by simp [hy]))) (Below.trod laidOut (by kernel_rfl) (of_decide_eq_true (by kernel_rfl)) h2k hB (fun y hy => by simp at hy))
  try simp only [List.append_nil] at hT
  try simp only [List.append_nil]
  try simp only [← List.append_assoc] at hT
  exact hT

theorem keysRevoked_holds : Rows.KeysRevokedSaid :=
  OpenClaim.holds_of_wide 4 Try.f4 rfl rfl rfl rfl rfl rfl rfl ⟨rfl, rfl, rfl, rfl, rfl⟩ rfl rfl rfl rfl rfl (by kernel_rfl) Try.func4 (by kernel_rfl)
    (of_decide_eq_true (by kernel_rfl)) (by unfold Func.isWrapper; first | (rw [if_pos (by decide +kernel)]; kernel_rfl) | (rw [if_neg (by decide +kernel)]; exact ⟨rfl, rfl⟩))
    (fun os started H enc _ => keysRevoked_lifted os started H enc)
end Go.Proofs.Ytkdodpcafamhaaa

/-
  The reference's Add, Sub.
-/
import Derived.Test.YtefphcpaakhfbaaLD
namespace Go.Proofs.Ytefphcpaakhfbaa
open Go Go.Sl Go.RowKit Go.Fp


set_option maxHeartbeats 4000000 in
theorem qadd_F {a b : F} {w : World} : FnAt Try.prog 15 [.agg (B (eb a)).toArray, .agg (B (eb b)).toArray] [] w (Ret fun r N => r = .agg (B (eb (a + b))).toArray ∧ N = []) := by
  refine FnAt.intro Try.func15 rfl Try.ntmps15 rfl _ rfl ?_
  (repeat (with_reducible refine G_seq ?_))
  refine G_region ?_
  refine GL_w rfl rfl (W_boxA rfl fun b2 => ?_)
  refine GL_w rfl rfl (W_boxA rfl fun b3 => ?_)
  refine GL_w rfl rfl (W_alloc zr22 fun b4 => ?_)
  refine GL_nil ?_
  (repeat (first | (with_reducible refine R_seq ?_) | (with_reducible refine R_block_normal ?_)))
  (repeat (with_reducible refine G_seq ?_))
  refine G_drawB ([]) 6 rfl (by kernel_rfl) ⟨_, by repeat (first | exact .nil | exact Pick.rfl' _ | exact Pick.skip (Pick.rfl' _) | exact Pick.skip (Pick.skip (Pick.rfl' _)) | (apply Pick.cons; focus (repeat (first | exact .head | apply Rem.tail))))⟩ ?_
  refine GB_y 0 rfl (by kernel_rfl) (by kernel_rfl) (by kernel_rfl) (fun _ _ _ h => h) rfl rfl (Y_slA ar22 rfl) ?_
  refine GB_y 1 rfl (by kernel_rfl) (by kernel_rfl) (by kernel_rfl) (fun _ _ _ h => h) rfl rfl (Y_slA ar22 rfl) ?_
  refine GB_one 2 (by kernel_rfl) ?_
  refine HO_call rfl rfl rfl rfl rfl Try.call36 .nil ⟨_, by repeat (first | exact .nil | exact Pick.rfl' _ | exact Pick.skip (Pick.rfl' _) | exact Pick.skip (Pick.skip (Pick.rfl' _)) | (apply Pick.cons; focus (repeat (first | exact .head | apply Rem.tail))))⟩ (fun w hw => radd_is (xs := eb a) (ys := eb b) (SlAt.mk' (hw.cells (k := ⟨b2, 22, (B (eb a)).length, B (eb a), (0, 0)⟩) (by repeat (first | exact .head _ | apply List.Mem.tail)))) (SlAt.mk' (hw.cells (k := ⟨b3, 22, (B (eb b)).length, B (eb b), (0, 0)⟩) (by repeat (first | exact .head _ | apply List.Mem.tail)))) (eb_len a).symm (eb_len b).symm (by rw [eb_len]; decide) (by rw [eb_len]; decide) (by rw [leN_eb, leN_eb])) ?_
  rintro _ N7 ⟨rs7, ao7, c7, rfl, hO7, hv7, hz7⟩
  refine GB_one 3 (by kernel_rfl) ?_
  refine HO_call rfl rfl rfl rfl rfl Try.call35 .nil ⟨_, by repeat (first | exact .nil | exact Pick.rfl' _ | exact Pick.skip (Pick.rfl' _) | exact Pick.skip (Pick.skip (Pick.rfl' _)) | (apply Pick.cons; focus (repeat (first | exact .head | apply Rem.tail))))⟩ (fun w hw => round_is (v := (a + b).val) (OB.at hO7 (Pick.pre _ _) hw) rfl (OB.cap hO7) (by have := NZ.len32 hz7 hv7 (sum_lt a b); omega) (by rw [hv7]; exact (sum_lt a b)) (by rw [hv7]; exact (add_val a b).symm)) ?_
  rintro _ N8 ⟨rs8, ao8, c8, rfl, hO8, hv8, hz8⟩
  refine GB_one 4 (by kernel_rfl) ?_
  refine HO_call rfl rfl rfl rfl rfl Try.call34 .nil ⟨_, by repeat (first | exact .nil | exact Pick.rfl' _ | exact Pick.skip (Pick.rfl' _) | exact Pick.skip (Pick.skip (Pick.rfl' _)) | (apply Pick.cons; focus (repeat (first | exact .head | apply Rem.tail))))⟩ (fun w hw => full_is (OB.at hO8 (Pick.pre _ _) hw) rfl (NZ.len32 hz8 hv8 (F_lt _))) ?_
  rintro _ _ ⟨rfl, rfl⟩
  rw [eb_round hv8]
  refine GB_drop (Pick.suf N8 _) .nil ?_
  refine GB_drop (Pick.suf N7 _) .nil ?_
  refine GB_one 5 (by kernel_rfl) ?_
  refine HO_s rfl rfl (S_all rfl rfl ag22 (by first | (rw [len_B, eb_len]) | (rw [len_B, fl_len, le32_len]) | (rw [len_B, le32_len]) | (rw [len_B]; assumption) | rfl) (by first | exact all_B _ | rfl) (by repeat (first | exact .head | apply Rem.tail)) (by first | (rw [len_B, eb_len]) | (rw [len_B, fl_len, le32_len]) | (rw [len_B, le32_len]) | (rw [len_B]; assumption) | rfl)) ⟨_, by repeat (first | exact .nil | exact Pick.rfl' _ | exact Pick.skip (Pick.rfl' _) | exact Pick.skip (Pick.skip (Pick.rfl' _)) | (apply Pick.cons; focus (repeat (first | exact .head | apply Rem.tail))))⟩ ?_
  refine GB_done (by kernel_rfl) ?_
  (repeat (first | (with_reducible refine R_seq ?_) | (with_reducible refine R_block_normal ?_)))
  (repeat (with_reducible refine G_seq ?_))
  refine G_ret ?_
  (repeat (first | (with_reducible refine R_then_ret ?_) | (with_reducible refine R_block_ret ?_)))
  refine R_ret (.ag rfl (by repeat (first | exact .head _ | apply List.Mem.tail)) (by exact ag22) .nil) [] .nil ⟨rfl, rfl⟩
set_option maxHeartbeats 4000000 in
theorem qsub_F {a b : F} {w : World} : FnAt Try.prog 16 [.agg (B (eb a)).toArray, .agg (B (eb b)).toArray] [] w (Ret fun r N => r = .agg (B (eb (a - b))).toArray ∧ N = []) := by
  refine FnAt.intro Try.func16 rfl Try.ntmps16 rfl _ rfl ?_
  (repeat (with_reducible refine G_seq ?_))
  refine G_region ?_
  refine GL_w rfl rfl (W_boxA rfl fun b2 => ?_)
  refine GL_w rfl rfl (W_boxA rfl fun b3 => ?_)
  refine GL_w rfl rfl (W_alloc zr22 fun b4 => ?_)
  refine GL_nil ?_
  (repeat (first | (with_reducible refine R_seq ?_) | (with_reducible refine R_block_normal ?_)))
  (repeat (with_reducible refine G_seq ?_))
  refine G_drawB ([]) 4 rfl (by kernel_rfl) ⟨_, by repeat (first | exact .nil | exact Pick.rfl' _ | exact Pick.skip (Pick.rfl' _) | exact Pick.skip (Pick.skip (Pick.rfl' _)) | (apply Pick.cons; focus (repeat (first | exact .head | apply Rem.tail))))⟩ ?_
  refine GB_y 1 rfl (by kernel_rfl) (by kernel_rfl) (by kernel_rfl) (fun _ _ _ h => h) rfl rfl (Y_slA ar22 rfl) ?_
  refine GB_one 0 (by kernel_rfl) ?_
  refine HO_call rfl rfl rfl rfl rfl Try.call32 .nil ⟨_, by repeat (first | exact .nil | exact Pick.rfl' _ | exact Pick.skip (Pick.rfl' _) | exact Pick.skip (Pick.skip (Pick.rfl' _)) | (apply Pick.cons; focus (repeat (first | exact .head | apply Rem.tail))))⟩ (fun w hw => p_is) ?_
  rintro _ _ ⟨b6, c6, rfl, rfl⟩
  refine GB_one 2 (by kernel_rfl) ?_
  refine HO_call rfl rfl rfl rfl rfl Try.call37 .nil ⟨_, by repeat (first | exact .nil | exact Pick.rfl' _ | exact Pick.skip (Pick.rfl' _) | exact Pick.skip (Pick.skip (Pick.rfl' _)) | (apply Pick.cons; focus (repeat (first | exact .head | apply Rem.tail))))⟩ (fun w hw => rsub_is (xs := pB) (ys := eb b) (SlAt.mk' (hw.cells (k := ⟨b6, 5, c6 * 1, B (pB), (0, 0)⟩) (by repeat (first | exact .head _ | apply List.Mem.tail)))) (SlAt.mk' (hw.cells (k := ⟨b3, 22, (B (eb b)).length, B (eb b), (0, 0)⟩) (by repeat (first | exact .head _ | apply List.Mem.tail)))) pB_len.symm (eb_len b).symm (by decide) (by rw [eb_len]; decide) (by rw [pB_N, leN_eb]; exact Nat.le_of_lt b.isLt) (by rw [pB_N, leN_eb])) ?_
  rintro _ _ h
  obtain ⟨rs7, b7, c7, rfl, rfl, hc7, hv7, hz7⟩ := NB.pos h (dif_pos b)
  refine GB_y 3 rfl (by kernel_rfl) (by kernel_rfl) (by kernel_rfl) (fun _ _ _ h => h) rfl rfl (Y_assign rfl) ?_
  refine GB_done (by kernel_rfl) ?_
  (repeat (first | (with_reducible refine R_seq ?_) | (with_reducible refine R_block_normal ?_)))
  (repeat (with_reducible refine G_seq ?_))
  refine G_region ?_
  refine GL_y rfl rfl (Y_slA ar22 rfl) ?_
  refine GL_y rfl rfl (Y_move rfl) ?_
  refine GL_call rfl rfl rfl rfl Try.call36 .nil (fun w hw => radd_is (xs := eb a) (ys := rs7) (SlAt.mk' (hw.cells (k := ⟨b2, 22, (B (eb a)).length, B (eb a), (0, 0)⟩) (by repeat (first | exact .head _ | apply List.Mem.tail)))) (SlAt.mk' (hw.cells (k := ⟨b7, 5, c7 * 1, B (rs7), (0, 0)⟩) (by repeat (first | exact .head _ | apply List.Mem.tail)))) (eb_len a).symm rfl (by rw [eb_len]; decide) (by have := NZ.len32 hz7 hv7 (dif_lt b); omega) (by rw [leN_eb, hv7])) ?_
  rintro _ N9 ⟨rs9, ao9, c9, rfl, hO9, hv9, hz9⟩
  refine GL_call rfl rfl rfl rfl Try.call35 .nil (fun w hw => round_is (v := (a - b).val) (OB.at hO9 (Pick.pre _ _) hw) rfl (OB.cap hO9) (by have := NZ.len32 hz9 hv9 (dsum_lt a b); omega) (by rw [hv9]; exact (dsum_lt a b)) (by rw [hv9]; exact dsub_val a b)) ?_
  rintro _ N8 ⟨rs8, ao8, c8, rfl, hO8, hv8, hz8⟩
  refine GL_call rfl rfl rfl rfl Try.call34 .nil (fun w hw => full_is (OB.at hO8 (Pick.pre _ _) hw) rfl (NZ.len32 hz8 hv8 (F_lt _))) ?_
  rintro _ _ ⟨rfl, rfl⟩
  rw [eb_round hv8]
  refine GL_drop (Pick.suf N8 _) ?_
  refine GL_drop (Pick.suf N9 _) ?_
  refine GL_s rfl (S_all rfl rfl ag22 (by first | (rw [len_B, eb_len]) | (rw [len_B, fl_len, le32_len]) | (rw [len_B, le32_len]) | (rw [len_B]; assumption) | rfl) (by first | exact all_B _ | rfl) (by repeat (first | exact .head | apply Rem.tail)) (by first | (rw [len_B, eb_len]) | (rw [len_B, fl_len, le32_len]) | (rw [len_B, le32_len]) | (rw [len_B]; assumption) | rfl)) ?_
  refine GL_nil ?_
  (repeat (first | (with_reducible refine R_seq ?_) | (with_reducible refine R_block_normal ?_)))
  (repeat (with_reducible refine G_seq ?_))
  refine G_ret ?_
  (repeat (first | (with_reducible refine R_then_ret ?_) | (with_reducible refine R_block_ret ?_)))
  refine R_ret (.ag rfl (by repeat (first | exact .head _ | apply List.Mem.tail)) (by exact ag22) .nil) [] .nil ⟨rfl, rfl⟩
end Go.Proofs.Ytefphcpaakhfbaa

/-
  awake.
-/
import Derived.Test.YtefphcpaakhfbaaL2
namespace Go.Proofs.Ytefphcpaakhfbaa
open Go Go.Sl Go.RowKit Go.Fp


theorem eqF {a b : F} (h : a = b) : Value.bool (decide (eb a = eb b)) = .bool true := by rw [h, decide_eq_true rfl]
theorem root4 : rootF 4 = some 2 := by
  obtain ⟨r, hr, h⟩ := rootF_sq 2
  have e : (2 : F) * 2 = 4 := by decide
  rw [e] at hr
  have h2 := (rootF_some hr).2
  rcases h with rfl | rfl
  · exact hr
  · exact absurd h2 (by decide)
theorem root2 : rootF 2 = none := by
  have h := rootF_chi two_ne
  rw [chi_two] at h
  cases hr : rootF 2 with
  | none => rfl
  | some r => rw [hr] at h; exact absurd (h.1 rfl) neg_one_ne
theorem root4_is {w : World} : FnAt Try.prog 20 [.agg (B (eb 4)).toArray] [] w (Ret fun v N => v = .tuple #[.agg (B (eb 2)).toArray, .bool true, .int .i64 0] ∧ N = []) := by
  have h := rootE_F (a := 4) (w := w)
  rw [root4] at h
  exact h
theorem root2_is' {w : World} : FnAt Try.prog 20 [.agg (B (eb 2)).toArray] [] w (Ret fun v N => v = .tuple #[.agg (B (eb 0)).toArray, .bool false, .int .i64 0] ∧ N = []) := by
  have h := rootE_F (a := 2) (w := w)
  rw [root2] at h
  exact h
theorem aw1 : (-1 : F) + 2 = 1 := by decide
theorem aw2 : (0 : F) - 1 = -1 := by decide
theorem aw3 : (-1 : F) * -1 = 1 := by decide
set_option maxHeartbeats 4000000 in
theorem awake_is {w : World} : FnAt Try.prog 14 [] [] w (Ret fun v N => v = .bool true ∧ N = []) := by
  refine FnAt.intro Try.func14 rfl Try.ntmps14 rfl _ rfl ?_
  (repeat (with_reducible refine G_seq ?_))
  refine G_region ?_
  refine GL_y rfl rfl (Y_assign rfl) ?_
  refine GL_nil ?_
  (repeat (first | (with_reducible refine R_seq ?_) | (with_reducible refine R_block_normal ?_)))
  (repeat (with_reducible refine G_seq ?_))
  refine G_region ?_
  refine GL_call rfl rfl rfl rfl Try.call33 .nil (fun w hw => last_is) ?_
  rintro _ _ ⟨rfl, rfl⟩
  refine GL_call rfl rfl rfl rfl Try.call19 .nil (fun w hw => num2) ?_
  rintro _ _ ⟨rfl, rfl⟩
  refine GL_call rfl rfl rfl rfl Try.call9 .nil (fun w hw => addE_F) ?_
  rintro _ _ ⟨rfl, rfl⟩
  refine GL_y rfl rfl (Y_move rfl) ?_
  refine GL_y rfl rfl (Y_extract rfl rfl) ?_
  refine GL_y rfl rfl (Y_extract rfl rfl) ?_
  refine GL_w rfl rfl (W_alloc zr22 fun b1 => ?_)
  refine GL_s rfl (S_all rfl rfl ag22 (by first | (rw [len_B, eb_len]) | (rw [len_B, fl_len, le32_len]) | (rw [len_B, le32_len]) | (rw [len_B]; assumption) | rfl) (by first | exact all_B _ | rfl) (by repeat (first | exact .head | apply Rem.tail)) (by first | (rw [len_B, eb_len]) | (rw [len_B, fl_len, le32_len]) | (rw [len_B, le32_len]) | (rw [len_B]; assumption) | rfl)) ?_
  refine GL_y rfl rfl (Y_assign rfl) ?_
  refine GL_nil ?_
  (repeat (first | (with_reducible refine R_seq ?_) | (with_reducible refine R_block_normal ?_)))
  (repeat (with_reducible refine G_seq ?_))
  refine G_region ?_
  refine GL_call rfl rfl rfl rfl Try.call19 .nil (fun w hw => num0) ?_
  rintro _ _ ⟨rfl, rfl⟩
  refine GL_call rfl rfl rfl rfl Try.call19 .nil (fun w hw => num1) ?_
  rintro _ _ ⟨rfl, rfl⟩
  refine GL_call rfl rfl rfl rfl Try.call10 .nil (fun w hw => subE_F) ?_
  rintro _ _ ⟨rfl, rfl⟩
  refine GL_y rfl rfl (Y_move rfl) ?_
  refine GL_y rfl rfl (Y_extract rfl rfl) ?_
  refine GL_y rfl rfl (Y_extract rfl rfl) ?_
  refine GL_w rfl rfl (W_alloc zr22 fun b3 => ?_)
  refine GL_s rfl (S_all rfl rfl ag22 (by first | (rw [len_B, eb_len]) | (rw [len_B, fl_len, le32_len]) | (rw [len_B, le32_len]) | (rw [len_B]; assumption) | rfl) (by first | exact all_B _ | rfl) (by repeat (first | exact .head | apply Rem.tail)) (by first | (rw [len_B, eb_len]) | (rw [len_B, fl_len, le32_len]) | (rw [len_B, le32_len]) | (rw [len_B]; assumption) | rfl)) ?_
  refine GL_y rfl rfl (Y_assign rfl) ?_
  refine GL_nil ?_
  (repeat (first | (with_reducible refine R_seq ?_) | (with_reducible refine R_block_normal ?_)))
  (repeat (with_reducible refine G_seq ?_))
  refine G_region ?_
  refine GL_call rfl rfl rfl rfl Try.call33 .nil (fun w hw => last_is) ?_
  rintro _ _ ⟨rfl, rfl⟩
  refine GL_call rfl rfl rfl rfl Try.call33 .nil (fun w hw => last_is) ?_
  rintro _ _ ⟨rfl, rfl⟩
  refine GL_call rfl rfl rfl rfl Try.call11 .nil (fun w hw => mulE_F) ?_
  rintro _ _ ⟨rfl, rfl⟩
  refine GL_y rfl rfl (Y_move rfl) ?_
  refine GL_y rfl rfl (Y_extract rfl rfl) ?_
  refine GL_y rfl rfl (Y_extract rfl rfl) ?_
  refine GL_w rfl rfl (W_alloc zr22 fun b5 => ?_)
  refine GL_s rfl (S_all rfl rfl ag22 (by first | (rw [len_B, eb_len]) | (rw [len_B, fl_len, le32_len]) | (rw [len_B, le32_len]) | (rw [len_B]; assumption) | rfl) (by first | exact all_B _ | rfl) (by repeat (first | exact .head | apply Rem.tail)) (by first | (rw [len_B, eb_len]) | (rw [len_B, fl_len, le32_len]) | (rw [len_B, le32_len]) | (rw [len_B]; assumption) | rfl)) ?_
  refine GL_y rfl rfl (Y_assign rfl) ?_
  refine GL_nil ?_
  (repeat (first | (with_reducible refine R_seq ?_) | (with_reducible refine R_block_normal ?_)))
  (repeat (with_reducible refine G_seq ?_))
  refine G_region ?_
  refine GL_call rfl rfl rfl rfl Try.call19 .nil (fun w hw => num4) ?_
  rintro _ _ ⟨rfl, rfl⟩
  refine GL_call rfl rfl rfl rfl Try.call20 .nil (fun w hw => root4_is) ?_
  rintro _ _ ⟨rfl, rfl⟩
  refine GL_y rfl rfl (Y_move rfl) ?_
  refine GL_y rfl rfl (Y_extract rfl rfl) ?_
  refine GL_y rfl rfl (Y_extract rfl rfl) ?_
  refine GL_y rfl rfl (Y_extract rfl rfl) ?_
  refine GL_w rfl rfl (W_alloc zr22 fun b7 => ?_)
  refine GL_s rfl (S_all rfl rfl ag22 (by first | (rw [len_B, eb_len]) | (rw [len_B, fl_len, le32_len]) | (rw [len_B, le32_len]) | (rw [len_B]; assumption) | rfl) (by first | exact all_B _ | rfl) (by repeat (first | exact .head | apply Rem.tail)) (by first | (rw [len_B, eb_len]) | (rw [len_B, fl_len, le32_len]) | (rw [len_B, le32_len]) | (rw [len_B]; assumption) | rfl)) ?_
  refine GL_y rfl rfl (Y_assign rfl) ?_
  refine GL_y rfl rfl (Y_assign rfl) ?_
  refine GL_nil ?_
  (repeat (first | (with_reducible refine R_seq ?_) | (with_reducible refine R_block_normal ?_)))
  (repeat (with_reducible refine G_seq ?_))
  refine G_region ?_
  refine GL_call rfl rfl rfl rfl Try.call19 .nil (fun w hw => num2) ?_
  rintro _ _ ⟨rfl, rfl⟩
  refine GL_call rfl rfl rfl rfl Try.call20 .nil (fun w hw => root2_is') ?_
  rintro _ _ ⟨rfl, rfl⟩
  refine GL_y rfl rfl (Y_move rfl) ?_
  refine GL_y rfl rfl (Y_extract rfl rfl) ?_
  refine GL_y rfl rfl (Y_extract rfl rfl) ?_
  refine GL_y rfl rfl (Y_extract rfl rfl) ?_
  refine GL_w rfl rfl (W_alloc zr22 fun b10 => ?_)
  refine GL_s rfl (S_all rfl rfl ag22 (by first | (rw [len_B, eb_len]) | (rw [len_B, fl_len, le32_len]) | (rw [len_B, le32_len]) | (rw [len_B]; assumption) | rfl) (by first | exact all_B _ | rfl) (by repeat (first | exact .head | apply Rem.tail)) (by first | (rw [len_B, eb_len]) | (rw [len_B, fl_len, le32_len]) | (rw [len_B, le32_len]) | (rw [len_B]; assumption) | rfl)) ?_
  refine GL_y rfl rfl (Y_assign rfl) ?_
  refine GL_y rfl rfl (Y_assign rfl) ?_
  refine GL_nil ?_
  (repeat (first | (with_reducible refine R_seq ?_) | (with_reducible refine R_block_normal ?_)))
  (repeat (with_reducible refine G_seq ?_))
  refine G_region ?_
  refine GL_call rfl rfl rfl rfl Try.call19 .nil (fun w hw => num0) ?_
  rintro _ _ ⟨rfl, rfl⟩
  refine GL_call rfl rfl rfl rfl Try.call18 .nil (fun w hw => invE_0) ?_
  rintro _ _ ⟨rfl, rfl⟩
  refine GL_y rfl rfl (Y_move rfl) ?_
  refine GL_y rfl rfl (Y_extract rfl rfl) ?_
  refine GL_y rfl rfl (Y_extract rfl rfl) ?_
  refine GL_w rfl rfl (W_alloc zr22 fun b13 => ?_)
  refine GL_s rfl (S_all rfl rfl ag22 (by first | (rw [len_B, eb_len]) | (rw [len_B, fl_len, le32_len]) | (rw [len_B, le32_len]) | (rw [len_B]; assumption) | rfl) (by first | exact all_B _ | rfl) (by repeat (first | exact .head | apply Rem.tail)) (by first | (rw [len_B, eb_len]) | (rw [len_B, fl_len, le32_len]) | (rw [len_B, le32_len]) | (rw [len_B]; assumption) | rfl)) ?_
  refine GL_y rfl rfl (Y_assign rfl) ?_
  refine GL_nil ?_
  (repeat (first | (with_reducible refine R_seq ?_) | (with_reducible refine R_block_normal ?_)))
  (repeat (with_reducible refine G_seq ?_))
  refine G_draw [] 50 rfl (by kernel_rfl) ?_
  refine GA_l 0 rfl (by kernel_rfl) (by kernel_rfl) (by kernel_rfl) (fun _ _ _ h => h) rfl rfl rfl rfl (Y_loadA rfl (by repeat (first | exact .head _ | apply List.Mem.tail)) ag22 (by first | (rw [len_B, eb_len]) | (rw [len_B, fl_len, le32_len]) | (rw [len_B, le32_len]) | (rw [len_B]; assumption) | rfl)) ?_
  refine GA_one 1 (by kernel_rfl) ?_
  refine GO_call rfl rfl rfl rfl rfl rfl Try.call19 (fun w hw => num1) ?_
  rintro _ _ ⟨rfl, rfl⟩
  refine GA_y 2 rfl (by kernel_rfl) (by kernel_rfl) (by kernel_rfl) (fun _ _ _ h => h) rfl rfl rfl ((Y_eqB eg22 ti22 rfl rfl (eb_len _) (eb_len _)).as (.bool true) (eqF (aw1))) ?_
  refine GA_y 3 rfl (by kernel_rfl) (by kernel_rfl) (by kernel_rfl) (fun _ _ _ h => h) rfl rfl rfl (Y_move rfl) ?_
  refine GA_y 4 rfl (by kernel_rfl) (by kernel_rfl) (by kernel_rfl) (fun _ _ _ h => h) rfl rfl rfl (Y_move rfl) ?_
  refine GA_y 5 rfl (by kernel_rfl) (by kernel_rfl) (by kernel_rfl) (fun _ _ _ h => h) rfl rfl rfl (Y_iop (v := .bool true) rfl rfl rfl) ?_
  refine GA_y 6 rfl (by kernel_rfl) (by kernel_rfl) (by kernel_rfl) (fun _ _ _ h => h) rfl rfl rfl (Y_pick rfl rfl rfl rfl) ?_
  refine GA_y 7 rfl (by kernel_rfl) (by kernel_rfl) (by kernel_rfl) (fun _ _ _ h => h) rfl rfl rfl (Y_move rfl) ?_
  refine GA_l 8 rfl (by kernel_rfl) (by kernel_rfl) (by kernel_rfl) (fun _ _ _ h => h) rfl rfl rfl rfl (Y_loadA rfl (by repeat (first | exact .head _ | apply List.Mem.tail)) ag22 (by first | (rw [len_B, eb_len]) | (rw [len_B, fl_len, le32_len]) | (rw [len_B, le32_len]) | (rw [len_B]; assumption) | rfl)) ?_
  refine GA_one 9 (by kernel_rfl) ?_
  refine GO_call rfl rfl rfl rfl rfl rfl Try.call33 (fun w hw => last_is) ?_
  rintro _ _ ⟨rfl, rfl⟩
  refine GA_y 10 rfl (by kernel_rfl) (by kernel_rfl) (by kernel_rfl) (fun _ _ _ h => h) rfl rfl rfl ((Y_eqB eg22 ti22 rfl rfl (eb_len _) (eb_len _)).as (.bool true) (eqF (aw2))) ?_
  refine GA_y 11 rfl (by kernel_rfl) (by kernel_rfl) (by kernel_rfl) (fun _ _ _ h => h) rfl rfl rfl (Y_pick rfl rfl rfl rfl) ?_
  refine GA_y 12 rfl (by kernel_rfl) (by kernel_rfl) (by kernel_rfl) (fun _ _ _ h => h) rfl rfl rfl (Y_move rfl) ?_
  refine GA_y 13 rfl (by kernel_rfl) (by kernel_rfl) (by kernel_rfl) (fun _ _ _ h => h) rfl rfl rfl (Y_move rfl) ?_
  refine GA_y 14 rfl (by kernel_rfl) (by kernel_rfl) (by kernel_rfl) (fun _ _ _ h => h) rfl rfl rfl (Y_iop (v := .bool true) rfl rfl rfl) ?_
  refine GA_y 15 rfl (by kernel_rfl) (by kernel_rfl) (by kernel_rfl) (fun _ _ _ h => h) rfl rfl rfl (Y_pick rfl rfl rfl rfl) ?_
  refine GA_y 16 rfl (by kernel_rfl) (by kernel_rfl) (by kernel_rfl) (fun _ _ _ h => h) rfl rfl rfl (Y_move rfl) ?_
  refine GA_l 17 rfl (by kernel_rfl) (by kernel_rfl) (by kernel_rfl) (fun _ _ _ h => h) rfl rfl rfl rfl (Y_loadA rfl (by repeat (first | exact .head _ | apply List.Mem.tail)) ag22 (by first | (rw [len_B, eb_len]) | (rw [len_B, fl_len, le32_len]) | (rw [len_B, le32_len]) | (rw [len_B]; assumption) | rfl)) ?_
  refine GA_one 18 (by kernel_rfl) ?_
  refine GO_call rfl rfl rfl rfl rfl rfl Try.call19 (fun w hw => num1) ?_
  rintro _ _ ⟨rfl, rfl⟩
  refine GA_y 19 rfl (by kernel_rfl) (by kernel_rfl) (by kernel_rfl) (fun _ _ _ h => h) rfl rfl rfl ((Y_eqB eg22 ti22 rfl rfl (eb_len _) (eb_len _)).as (.bool true) (eqF (aw3))) ?_
  refine GA_y 20 rfl (by kernel_rfl) (by kernel_rfl) (by kernel_rfl) (fun _ _ _ h => h) rfl rfl rfl (Y_pick rfl rfl rfl rfl) ?_
  refine GA_y 21 rfl (by kernel_rfl) (by kernel_rfl) (by kernel_rfl) (fun _ _ _ h => h) rfl rfl rfl (Y_move rfl) ?_
  refine GA_y 22 rfl (by kernel_rfl) (by kernel_rfl) (by kernel_rfl) (fun _ _ _ h => h) rfl rfl rfl (Y_move rfl) ?_
  refine GA_y 23 rfl (by kernel_rfl) (by kernel_rfl) (by kernel_rfl) (fun _ _ _ h => h) rfl rfl rfl (Y_iop (v := .bool true) rfl rfl rfl) ?_
  refine GA_y 24 rfl (by kernel_rfl) (by kernel_rfl) (by kernel_rfl) (fun _ _ _ h => h) rfl rfl rfl (Y_pick rfl rfl rfl rfl) ?_
  refine GA_y 25 rfl (by kernel_rfl) (by kernel_rfl) (by kernel_rfl) (fun _ _ _ h => h) rfl rfl rfl (Y_move rfl) ?_
  refine GA_l 26 rfl (by kernel_rfl) (by kernel_rfl) (by kernel_rfl) (fun _ _ _ h => h) rfl rfl rfl rfl (Y_loadA rfl (by repeat (first | exact .head _ | apply List.Mem.tail)) ag22 (by first | (rw [len_B, eb_len]) | (rw [len_B, fl_len, le32_len]) | (rw [len_B, le32_len]) | (rw [len_B]; assumption) | rfl)) ?_
  refine GA_one 27 (by kernel_rfl) ?_
  refine GO_call rfl rfl rfl rfl rfl rfl Try.call19 (fun w hw => num2) ?_
  rintro _ _ ⟨rfl, rfl⟩
  refine GA_y 28 rfl (by kernel_rfl) (by kernel_rfl) (by kernel_rfl) (fun _ _ _ h => h) rfl rfl rfl ((Y_eqB eg22 ti22 rfl rfl (eb_len _) (eb_len _)).as (.bool true) (eqF (rfl))) ?_
  refine GA_y 29 rfl (by kernel_rfl) (by kernel_rfl) (by kernel_rfl) (fun _ _ _ h => h) rfl rfl rfl (Y_pick rfl rfl rfl rfl) ?_
  refine GA_y 30 rfl (by kernel_rfl) (by kernel_rfl) (by kernel_rfl) (fun _ _ _ h => h) rfl rfl rfl (Y_move rfl) ?_
  refine GA_y 31 rfl (by kernel_rfl) (by kernel_rfl) (by kernel_rfl) (fun _ _ _ h => h) rfl rfl rfl (Y_move rfl) ?_
  refine GA_y 32 rfl (by kernel_rfl) (by kernel_rfl) (by kernel_rfl) (fun _ _ _ h => h) rfl rfl rfl (Y_pick rfl rfl rfl rfl) ?_
  refine GA_y 33 rfl (by kernel_rfl) (by kernel_rfl) (by kernel_rfl) (fun _ _ _ h => h) rfl rfl rfl (Y_move rfl) ?_
  refine GA_y 34 rfl (by kernel_rfl) (by kernel_rfl) (by kernel_rfl) (fun _ _ _ h => h) rfl rfl rfl (Y_move rfl) ?_
  refine GA_y 35 rfl (by kernel_rfl) (by kernel_rfl) (by kernel_rfl) (fun _ _ _ h => h) rfl rfl rfl (Y_iop (v := .bool true) rfl rfl rfl) ?_
  refine GA_y 36 rfl (by kernel_rfl) (by kernel_rfl) (by kernel_rfl) (fun _ _ _ h => h) rfl rfl rfl (Y_pick rfl rfl rfl rfl) ?_
  refine GA_y 37 rfl (by kernel_rfl) (by kernel_rfl) (by kernel_rfl) (fun _ _ _ h => h) rfl rfl rfl (Y_move rfl) ?_
  refine GA_y 38 rfl (by kernel_rfl) (by kernel_rfl) (by kernel_rfl) (fun _ _ _ h => h) rfl rfl rfl (Y_move rfl) ?_
  refine GA_y 39 rfl (by kernel_rfl) (by kernel_rfl) (by kernel_rfl) (fun _ _ _ h => h) rfl rfl rfl (Y_not rfl) ?_
  refine GA_y 40 rfl (by kernel_rfl) (by kernel_rfl) (by kernel_rfl) (fun _ _ _ h => h) rfl rfl rfl (Y_pick rfl rfl rfl rfl) ?_
  refine GA_y 41 rfl (by kernel_rfl) (by kernel_rfl) (by kernel_rfl) (fun _ _ _ h => h) rfl rfl rfl (Y_move rfl) ?_
  refine GA_y 42 rfl (by kernel_rfl) (by kernel_rfl) (by kernel_rfl) (fun _ _ _ h => h) rfl rfl rfl (Y_move rfl) ?_
  refine GA_y 43 rfl (by kernel_rfl) (by kernel_rfl) (by kernel_rfl) (fun _ _ _ h => h) rfl rfl rfl (Y_iop (v := .bool true) rfl rfl rfl) ?_
  refine GA_y 44 rfl (by kernel_rfl) (by kernel_rfl) (by kernel_rfl) (fun _ _ _ h => h) rfl rfl rfl (Y_pick rfl rfl rfl rfl) ?_
  refine GA_y 45 rfl (by kernel_rfl) (by kernel_rfl) (by kernel_rfl) (fun _ _ _ h => h) rfl rfl rfl (Y_move rfl) ?_
  refine GA_y 46 rfl (by kernel_rfl) (by kernel_rfl) (by kernel_rfl) (fun _ _ _ h => h) rfl rfl rfl (Y_move rfl) ?_
  refine GA_y 47 rfl (by kernel_rfl) (by kernel_rfl) (by kernel_rfl) (fun _ _ _ h => h) rfl rfl rfl (Y_iop (v := .bool true) rfl rfl rfl) ?_
  refine GA_y 48 rfl (by kernel_rfl) (by kernel_rfl) (by kernel_rfl) (fun _ _ _ h => h) rfl rfl rfl (Y_pick rfl rfl rfl rfl) ?_
  refine GA_y 49 rfl (by kernel_rfl) (by kernel_rfl) (by kernel_rfl) (fun _ _ _ h => h) rfl rfl rfl (Y_assign rfl) ?_
  refine GA_done (by kernel_rfl) ?_
  (repeat (first | (with_reducible refine R_seq ?_) | (with_reducible refine R_block_normal ?_)))
  (repeat (with_reducible refine G_seq ?_))
  refine G_ret ?_
  (repeat (first | (with_reducible refine R_then_ret ?_) | (with_reducible refine R_block_ret ?_)))
  refine R_ret (.tmp rfl .nil) [] .nil ⟨rfl, rfl⟩
end Go.Proofs.Ytefphcpaakhfbaa

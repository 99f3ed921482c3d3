/-
  less, prime.
-/
import Derived.Test.YtefphcpaakhfbaaFE
namespace Go.Proofs.Ytefphcpaakhfbaa
open Go Go.Sl Go.RowKit Go.Fp

theorem ag37 : TAgg Try.prog 37 4 := ⟨_, Try.underlying37, rfl, by kernel_rfl⟩
theorem ar37 : TArr Try.prog 37 4 35 1 := ⟨Try.underlying37, by kernel_rfl⟩
theorem sc35 : TScal Try.prog 35 := ⟨_, Try.underlying35, rfl, by kernel_rfl⟩
theorem zr37 : TZero Try.prog 37 ([(.int .u64 0), (.int .u64 0), (.int .u64 0), (.int .u64 0)]) := by unfold TZero; kernel_rfl
theorem sub64_sb (x y c : Nat) (hc : c ≤ 1) (w : World) : (callFunc 47 [wv x, wv y, wv c].toArray).run Try.prog w = .ok (.value (.tuple [wv (sbw x y c), wv (sbc x y c)].toArray)) w := sub64_is x y c hc w
set_option maxHeartbeats 4000000 in
theorem less_raw {x0 x1 x2 x3 y0 y1 y2 y3 : Nat} {w : World} : FnAt Try.prog 29 [.agg [wv x0, wv x1, wv x2, wv x3].toArray, .agg [wv y0, wv y1, wv y2, wv y3].toArray] [] w (Ret fun v N => v = .tuple #[
    .agg [wv (sbw x0 y0 0), wv (sbw x1 y1 (sbc x0 y0 0)), wv (sbw x2 y2 (sbc x1 y1 (sbc x0 y0 0))), wv (sbw x3 y3 (sbc x2 y2 (sbc x1 y1 (sbc x0 y0 0))))].toArray, .bool (decide (((sbc x3 y3 (sbc x2 y2 (sbc x1 y1 (sbc x0 y0 0))) : Nat) : Int) = 0))] ∧ N = []) := by
  refine FnAt.intro Try.func29 rfl Try.ntmps29 rfl _ rfl ?_
  (repeat (with_reducible refine G_seq ?_))
  refine G_region ?_
  refine GL_w rfl rfl (W_boxA rfl fun b2 => ?_)
  refine GL_w rfl rfl (W_boxA rfl fun b3 => ?_)
  refine GL_w rfl rfl (W_alloc zr37 fun b4 => ?_)
  refine GL_y rfl rfl (Y_assign rfl) ?_
  refine GL_nil ?_
  (repeat (first | (with_reducible refine R_seq ?_) | (with_reducible refine R_block_normal ?_)))
  (repeat (with_reducible refine G_seq ?_))
  refine G_region ?_
  refine GL_w rfl rfl (W_alloc zr37 fun b6 => ?_)
  refine GL_nil ?_
  (repeat (first | (with_reducible refine R_seq ?_) | (with_reducible refine R_block_normal ?_)))
  (repeat (with_reducible refine G_seq ?_))
  refine G_region ?_
  refine GL_y rfl rfl (Y_assign rfl) ?_
  refine GL_nil ?_
  (repeat (first | (with_reducible refine R_seq ?_) | (with_reducible refine R_block_normal ?_)))
  (repeat (with_reducible refine G_seq ?_))
  refine G_region ?_
  refine GL_y rfl rfl (Y_move rfl) ?_
  refine GL_nil ?_
  (repeat (first | (with_reducible refine R_seq ?_) | (with_reducible refine R_block_normal ?_)))
  (repeat (with_reducible refine G_seq ?_))
  refine G_block ?_
  (repeat (with_reducible refine G_seq ?_))
  refine G_rounds 4 ?_
  -- round 0 of loop 0
  (repeat (with_reducible refine G_seq ?_))
  refine G_region ?_
  refine GL_y rfl rfl (Y_lssN (b := 4) rfl rfl) ?_
  refine GL_nil ?_
  (repeat (first | (with_reducible refine R_seq ?_) | (with_reducible refine R_block_normal ?_)))
  (repeat (with_reducible refine G_seq ?_))
  refine G_cond_t rfl (by first | rfl | decide) ?_
  (repeat (with_reducible refine G_seq ?_))
  refine G_skip ?_
  (repeat (first | (with_reducible refine R_seq ?_) | (with_reducible refine R_block_normal ?_)))
  (repeat (with_reducible refine G_seq ?_))
  refine G_block ?_
  (repeat (with_reducible refine G_seq ?_))
  refine G_region ?_
  refine GL_y rfl rfl (Y_move rfl) ?_
  refine GL_y rfl rfl (Y_assign rfl) ?_
  refine GL_nil ?_
  (repeat (first | (with_reducible refine R_seq ?_) | (with_reducible refine R_block_normal ?_)))
  (repeat (with_reducible refine G_seq ?_))
  refine G_draw [13] 15 rfl (by kernel_rfl) ?_
  refine GA_y 0 rfl (by kernel_rfl) (by kernel_rfl) (by kernel_rfl) (fun _ _ _ h => h) rfl rfl rfl (Y_move rfl) ?_
  refine GA_y 1 rfl (by kernel_rfl) (by kernel_rfl) (by kernel_rfl) (fun _ _ _ h => h) rfl rfl rfl (Y_move rfl) ?_
  refine GA_y 2 rfl (by kernel_rfl) (by kernel_rfl) (by kernel_rfl) (fun _ _ _ h => h) rfl rfl rfl (Y_idxA1 ar37 rfl rfl (by first | omega | decide)) ?_
  refine GA_l 3 rfl (by kernel_rfl) (by kernel_rfl) (by kernel_rfl) (fun _ _ _ h => h) rfl rfl rfl rfl (Y_loadS rfl sc35 (by repeat (first | exact .head _ | apply List.Mem.tail)) (by rfl)) ?_
  refine GA_y 4 rfl (by kernel_rfl) (by kernel_rfl) (by kernel_rfl) (fun _ _ _ h => h) rfl rfl rfl (Y_move rfl) ?_
  refine GA_y 5 rfl (by kernel_rfl) (by kernel_rfl) (by kernel_rfl) (fun _ _ _ h => h) rfl rfl rfl (Y_idxA1 ar37 rfl rfl (by first | omega | decide)) ?_
  refine GA_l 6 rfl (by kernel_rfl) (by kernel_rfl) (by kernel_rfl) (fun _ _ _ h => h) rfl rfl rfl rfl (Y_loadS rfl sc35 (by repeat (first | exact .head _ | apply List.Mem.tail)) (by rfl)) ?_
  refine GA_y 7 rfl (by kernel_rfl) (by kernel_rfl) (by kernel_rfl) (fun _ _ _ h => h) rfl rfl rfl (Y_move rfl) ?_
  refine GA_y 8 rfl (by kernel_rfl) (by kernel_rfl) (by kernel_rfl) (fun _ _ _ h => h) rfl rfl rfl (Y_ext rfl rfl (fun w => sub64_sb _ _ _ (by first | exact sbc_le _ _ _ | decide) w)) ?_
  refine GA_y 9 rfl (by kernel_rfl) (by kernel_rfl) (by kernel_rfl) (fun _ _ _ h => h) rfl rfl rfl (Y_move rfl) ?_
  refine GA_y 10 rfl (by kernel_rfl) (by kernel_rfl) (by kernel_rfl) (fun _ _ _ h => h) rfl rfl rfl (Y_extract rfl rfl) ?_
  refine GA_y 11 rfl (by kernel_rfl) (by kernel_rfl) (by kernel_rfl) (fun _ _ _ h => h) rfl rfl rfl (Y_extract rfl rfl) ?_
  refine GA_y 12 rfl (by kernel_rfl) (by kernel_rfl) (by kernel_rfl) (fun _ _ _ h => h) rfl rfl rfl (Y_idxA1 ar37 rfl rfl (by first | omega | decide)) ?_
  refine GA_one 13 (by kernel_rfl) ?_
  refine GO_s rfl rfl rfl (S_sc rfl sc35 rfl rfl (by repeat (first | exact .head | apply Rem.tail)) (by rfl)) ?_
  refine GA_y 14 rfl (by kernel_rfl) (by kernel_rfl) (by kernel_rfl) (fun _ _ _ h => h) rfl rfl rfl (Y_assign rfl) ?_
  refine GA_done (by kernel_rfl) ?_
  (repeat (first | (with_reducible refine R_seq ?_) | (with_reducible refine R_block_normal ?_)))
  (repeat (with_reducible refine G_seq ?_))
  refine G_region ?_
  refine GL_y rfl rfl (Y_addN (b := 1) rfl rfl (by first | omega | decide)) ?_
  refine GL_y rfl rfl (Y_move rfl) ?_
  refine GL_nil ?_
  (repeat (first | (with_reducible refine R_seq ?_) | (with_reducible refine R_block_normal ?_)))
  (repeat (first | (with_reducible refine R_block_normal ?_) | (with_reducible refine R_round ?_)))
  -- round 1 of loop 0
  (repeat (with_reducible refine G_seq ?_))
  refine G_region ?_
  refine GL_y rfl rfl (Y_lssN (b := 4) rfl rfl) ?_
  refine GL_nil ?_
  (repeat (first | (with_reducible refine R_seq ?_) | (with_reducible refine R_block_normal ?_)))
  (repeat (with_reducible refine G_seq ?_))
  refine G_cond_t rfl (by first | rfl | decide) ?_
  (repeat (with_reducible refine G_seq ?_))
  refine G_skip ?_
  (repeat (first | (with_reducible refine R_seq ?_) | (with_reducible refine R_block_normal ?_)))
  (repeat (with_reducible refine G_seq ?_))
  refine G_block ?_
  (repeat (with_reducible refine G_seq ?_))
  refine G_region ?_
  refine GL_y rfl rfl (Y_move rfl) ?_
  refine GL_y rfl rfl (Y_assign rfl) ?_
  refine GL_nil ?_
  (repeat (first | (with_reducible refine R_seq ?_) | (with_reducible refine R_block_normal ?_)))
  (repeat (with_reducible refine G_seq ?_))
  refine G_draw [13] 15 rfl (by kernel_rfl) ?_
  refine GA_y 0 rfl (by kernel_rfl) (by kernel_rfl) (by kernel_rfl) (fun _ _ _ h => h) rfl rfl rfl (Y_move rfl) ?_
  refine GA_y 1 rfl (by kernel_rfl) (by kernel_rfl) (by kernel_rfl) (fun _ _ _ h => h) rfl rfl rfl (Y_move rfl) ?_
  refine GA_y 2 rfl (by kernel_rfl) (by kernel_rfl) (by kernel_rfl) (fun _ _ _ h => h) rfl rfl rfl (Y_idxA1 ar37 rfl rfl (by first | omega | decide)) ?_
  refine GA_l 3 rfl (by kernel_rfl) (by kernel_rfl) (by kernel_rfl) (fun _ _ _ h => h) rfl rfl rfl rfl (Y_loadS rfl sc35 (by repeat (first | exact .head _ | apply List.Mem.tail)) (by rfl)) ?_
  refine GA_y 4 rfl (by kernel_rfl) (by kernel_rfl) (by kernel_rfl) (fun _ _ _ h => h) rfl rfl rfl (Y_move rfl) ?_
  refine GA_y 5 rfl (by kernel_rfl) (by kernel_rfl) (by kernel_rfl) (fun _ _ _ h => h) rfl rfl rfl (Y_idxA1 ar37 rfl rfl (by first | omega | decide)) ?_
  refine GA_l 6 rfl (by kernel_rfl) (by kernel_rfl) (by kernel_rfl) (fun _ _ _ h => h) rfl rfl rfl rfl (Y_loadS rfl sc35 (by repeat (first | exact .head _ | apply List.Mem.tail)) (by rfl)) ?_
  refine GA_y 7 rfl (by kernel_rfl) (by kernel_rfl) (by kernel_rfl) (fun _ _ _ h => h) rfl rfl rfl (Y_move rfl) ?_
  refine GA_y 8 rfl (by kernel_rfl) (by kernel_rfl) (by kernel_rfl) (fun _ _ _ h => h) rfl rfl rfl (Y_ext rfl rfl (fun w => sub64_sb _ _ _ (by first | exact sbc_le _ _ _ | decide) w)) ?_
  refine GA_y 9 rfl (by kernel_rfl) (by kernel_rfl) (by kernel_rfl) (fun _ _ _ h => h) rfl rfl rfl (Y_move rfl) ?_
  refine GA_y 10 rfl (by kernel_rfl) (by kernel_rfl) (by kernel_rfl) (fun _ _ _ h => h) rfl rfl rfl (Y_extract rfl rfl) ?_
  refine GA_y 11 rfl (by kernel_rfl) (by kernel_rfl) (by kernel_rfl) (fun _ _ _ h => h) rfl rfl rfl (Y_extract rfl rfl) ?_
  refine GA_y 12 rfl (by kernel_rfl) (by kernel_rfl) (by kernel_rfl) (fun _ _ _ h => h) rfl rfl rfl (Y_idxA1 ar37 rfl rfl (by first | omega | decide)) ?_
  refine GA_one 13 (by kernel_rfl) ?_
  refine GO_s rfl rfl rfl (S_sc rfl sc35 rfl rfl (by repeat (first | exact .head | apply Rem.tail)) (by rfl)) ?_
  refine GA_y 14 rfl (by kernel_rfl) (by kernel_rfl) (by kernel_rfl) (fun _ _ _ h => h) rfl rfl rfl (Y_assign rfl) ?_
  refine GA_done (by kernel_rfl) ?_
  (repeat (first | (with_reducible refine R_seq ?_) | (with_reducible refine R_block_normal ?_)))
  (repeat (with_reducible refine G_seq ?_))
  refine G_region ?_
  refine GL_y rfl rfl (Y_addN (b := 1) rfl rfl (by first | omega | decide)) ?_
  refine GL_y rfl rfl (Y_move rfl) ?_
  refine GL_nil ?_
  (repeat (first | (with_reducible refine R_seq ?_) | (with_reducible refine R_block_normal ?_)))
  (repeat (first | (with_reducible refine R_block_normal ?_) | (with_reducible refine R_round ?_)))
  -- round 2 of loop 0
  (repeat (with_reducible refine G_seq ?_))
  refine G_region ?_
  refine GL_y rfl rfl (Y_lssN (b := 4) rfl rfl) ?_
  refine GL_nil ?_
  (repeat (first | (with_reducible refine R_seq ?_) | (with_reducible refine R_block_normal ?_)))
  (repeat (with_reducible refine G_seq ?_))
  refine G_cond_t rfl (by first | rfl | decide) ?_
  (repeat (with_reducible refine G_seq ?_))
  refine G_skip ?_
  (repeat (first | (with_reducible refine R_seq ?_) | (with_reducible refine R_block_normal ?_)))
  (repeat (with_reducible refine G_seq ?_))
  refine G_block ?_
  (repeat (with_reducible refine G_seq ?_))
  refine G_region ?_
  refine GL_y rfl rfl (Y_move rfl) ?_
  refine GL_y rfl rfl (Y_assign rfl) ?_
  refine GL_nil ?_
  (repeat (first | (with_reducible refine R_seq ?_) | (with_reducible refine R_block_normal ?_)))
  (repeat (with_reducible refine G_seq ?_))
  refine G_draw [13] 15 rfl (by kernel_rfl) ?_
  refine GA_y 0 rfl (by kernel_rfl) (by kernel_rfl) (by kernel_rfl) (fun _ _ _ h => h) rfl rfl rfl (Y_move rfl) ?_
  refine GA_y 1 rfl (by kernel_rfl) (by kernel_rfl) (by kernel_rfl) (fun _ _ _ h => h) rfl rfl rfl (Y_move rfl) ?_
  refine GA_y 2 rfl (by kernel_rfl) (by kernel_rfl) (by kernel_rfl) (fun _ _ _ h => h) rfl rfl rfl (Y_idxA1 ar37 rfl rfl (by first | omega | decide)) ?_
  refine GA_l 3 rfl (by kernel_rfl) (by kernel_rfl) (by kernel_rfl) (fun _ _ _ h => h) rfl rfl rfl rfl (Y_loadS rfl sc35 (by repeat (first | exact .head _ | apply List.Mem.tail)) (by rfl)) ?_
  refine GA_y 4 rfl (by kernel_rfl) (by kernel_rfl) (by kernel_rfl) (fun _ _ _ h => h) rfl rfl rfl (Y_move rfl) ?_
  refine GA_y 5 rfl (by kernel_rfl) (by kernel_rfl) (by kernel_rfl) (fun _ _ _ h => h) rfl rfl rfl (Y_idxA1 ar37 rfl rfl (by first | omega | decide)) ?_
  refine GA_l 6 rfl (by kernel_rfl) (by kernel_rfl) (by kernel_rfl) (fun _ _ _ h => h) rfl rfl rfl rfl (Y_loadS rfl sc35 (by repeat (first | exact .head _ | apply List.Mem.tail)) (by rfl)) ?_
  refine GA_y 7 rfl (by kernel_rfl) (by kernel_rfl) (by kernel_rfl) (fun _ _ _ h => h) rfl rfl rfl (Y_move rfl) ?_
  refine GA_y 8 rfl (by kernel_rfl) (by kernel_rfl) (by kernel_rfl) (fun _ _ _ h => h) rfl rfl rfl (Y_ext rfl rfl (fun w => sub64_sb _ _ _ (by first | exact sbc_le _ _ _ | decide) w)) ?_
  refine GA_y 9 rfl (by kernel_rfl) (by kernel_rfl) (by kernel_rfl) (fun _ _ _ h => h) rfl rfl rfl (Y_move rfl) ?_
  refine GA_y 10 rfl (by kernel_rfl) (by kernel_rfl) (by kernel_rfl) (fun _ _ _ h => h) rfl rfl rfl (Y_extract rfl rfl) ?_
  refine GA_y 11 rfl (by kernel_rfl) (by kernel_rfl) (by kernel_rfl) (fun _ _ _ h => h) rfl rfl rfl (Y_extract rfl rfl) ?_
  refine GA_y 12 rfl (by kernel_rfl) (by kernel_rfl) (by kernel_rfl) (fun _ _ _ h => h) rfl rfl rfl (Y_idxA1 ar37 rfl rfl (by first | omega | decide)) ?_
  refine GA_one 13 (by kernel_rfl) ?_
  refine GO_s rfl rfl rfl (S_sc rfl sc35 rfl rfl (by repeat (first | exact .head | apply Rem.tail)) (by rfl)) ?_
  refine GA_y 14 rfl (by kernel_rfl) (by kernel_rfl) (by kernel_rfl) (fun _ _ _ h => h) rfl rfl rfl (Y_assign rfl) ?_
  refine GA_done (by kernel_rfl) ?_
  (repeat (first | (with_reducible refine R_seq ?_) | (with_reducible refine R_block_normal ?_)))
  (repeat (with_reducible refine G_seq ?_))
  refine G_region ?_
  refine GL_y rfl rfl (Y_addN (b := 1) rfl rfl (by first | omega | decide)) ?_
  refine GL_y rfl rfl (Y_move rfl) ?_
  refine GL_nil ?_
  (repeat (first | (with_reducible refine R_seq ?_) | (with_reducible refine R_block_normal ?_)))
  (repeat (first | (with_reducible refine R_block_normal ?_) | (with_reducible refine R_round ?_)))
  -- round 3 of loop 0
  (repeat (with_reducible refine G_seq ?_))
  refine G_region ?_
  refine GL_y rfl rfl (Y_lssN (b := 4) rfl rfl) ?_
  refine GL_nil ?_
  (repeat (first | (with_reducible refine R_seq ?_) | (with_reducible refine R_block_normal ?_)))
  (repeat (with_reducible refine G_seq ?_))
  refine G_cond_t rfl (by first | rfl | decide) ?_
  (repeat (with_reducible refine G_seq ?_))
  refine G_skip ?_
  (repeat (first | (with_reducible refine R_seq ?_) | (with_reducible refine R_block_normal ?_)))
  (repeat (with_reducible refine G_seq ?_))
  refine G_block ?_
  (repeat (with_reducible refine G_seq ?_))
  refine G_region ?_
  refine GL_y rfl rfl (Y_move rfl) ?_
  refine GL_y rfl rfl (Y_assign rfl) ?_
  refine GL_nil ?_
  (repeat (first | (with_reducible refine R_seq ?_) | (with_reducible refine R_block_normal ?_)))
  (repeat (with_reducible refine G_seq ?_))
  refine G_draw [13] 15 rfl (by kernel_rfl) ?_
  refine GA_y 0 rfl (by kernel_rfl) (by kernel_rfl) (by kernel_rfl) (fun _ _ _ h => h) rfl rfl rfl (Y_move rfl) ?_
  refine GA_y 1 rfl (by kernel_rfl) (by kernel_rfl) (by kernel_rfl) (fun _ _ _ h => h) rfl rfl rfl (Y_move rfl) ?_
  refine GA_y 2 rfl (by kernel_rfl) (by kernel_rfl) (by kernel_rfl) (fun _ _ _ h => h) rfl rfl rfl (Y_idxA1 ar37 rfl rfl (by first | omega | decide)) ?_
  refine GA_l 3 rfl (by kernel_rfl) (by kernel_rfl) (by kernel_rfl) (fun _ _ _ h => h) rfl rfl rfl rfl (Y_loadS rfl sc35 (by repeat (first | exact .head _ | apply List.Mem.tail)) (by rfl)) ?_
  refine GA_y 4 rfl (by kernel_rfl) (by kernel_rfl) (by kernel_rfl) (fun _ _ _ h => h) rfl rfl rfl (Y_move rfl) ?_
  refine GA_y 5 rfl (by kernel_rfl) (by kernel_rfl) (by kernel_rfl) (fun _ _ _ h => h) rfl rfl rfl (Y_idxA1 ar37 rfl rfl (by first | omega | decide)) ?_
  refine GA_l 6 rfl (by kernel_rfl) (by kernel_rfl) (by kernel_rfl) (fun _ _ _ h => h) rfl rfl rfl rfl (Y_loadS rfl sc35 (by repeat (first | exact .head _ | apply List.Mem.tail)) (by rfl)) ?_
  refine GA_y 7 rfl (by kernel_rfl) (by kernel_rfl) (by kernel_rfl) (fun _ _ _ h => h) rfl rfl rfl (Y_move rfl) ?_
  refine GA_y 8 rfl (by kernel_rfl) (by kernel_rfl) (by kernel_rfl) (fun _ _ _ h => h) rfl rfl rfl (Y_ext rfl rfl (fun w => sub64_sb _ _ _ (by first | exact sbc_le _ _ _ | decide) w)) ?_
  refine GA_y 9 rfl (by kernel_rfl) (by kernel_rfl) (by kernel_rfl) (fun _ _ _ h => h) rfl rfl rfl (Y_move rfl) ?_
  refine GA_y 10 rfl (by kernel_rfl) (by kernel_rfl) (by kernel_rfl) (fun _ _ _ h => h) rfl rfl rfl (Y_extract rfl rfl) ?_
  refine GA_y 11 rfl (by kernel_rfl) (by kernel_rfl) (by kernel_rfl) (fun _ _ _ h => h) rfl rfl rfl (Y_extract rfl rfl) ?_
  refine GA_y 12 rfl (by kernel_rfl) (by kernel_rfl) (by kernel_rfl) (fun _ _ _ h => h) rfl rfl rfl (Y_idxA1 ar37 rfl rfl (by first | omega | decide)) ?_
  refine GA_one 13 (by kernel_rfl) ?_
  refine GO_s rfl rfl rfl (S_sc rfl sc35 rfl rfl (by repeat (first | exact .head | apply Rem.tail)) (by rfl)) ?_
  refine GA_y 14 rfl (by kernel_rfl) (by kernel_rfl) (by kernel_rfl) (fun _ _ _ h => h) rfl rfl rfl (Y_assign rfl) ?_
  refine GA_done (by kernel_rfl) ?_
  (repeat (first | (with_reducible refine R_seq ?_) | (with_reducible refine R_block_normal ?_)))
  (repeat (with_reducible refine G_seq ?_))
  refine G_region ?_
  refine GL_y rfl rfl (Y_addN (b := 1) rfl rfl (by first | omega | decide)) ?_
  refine GL_y rfl rfl (Y_move rfl) ?_
  refine GL_nil ?_
  (repeat (first | (with_reducible refine R_seq ?_) | (with_reducible refine R_block_normal ?_)))
  (repeat (first | (with_reducible refine R_block_normal ?_) | (with_reducible refine R_round ?_)))
  -- round 4 of loop 0
  (repeat (with_reducible refine G_seq ?_))
  refine G_region ?_
  refine GL_y rfl rfl (Y_lssN (b := 4) rfl rfl) ?_
  refine GL_nil ?_
  (repeat (first | (with_reducible refine R_seq ?_) | (with_reducible refine R_block_normal ?_)))
  (repeat (with_reducible refine G_seq ?_))
  refine G_cond_f rfl (by first | rfl | decide) ?_
  (repeat (with_reducible refine G_seq ?_))
  refine G_exit ?_
  (repeat (first | (with_reducible refine R_then_exit ?_) | (with_reducible refine R_block_exit ?_) | (with_reducible refine R_block_other (by decide) ?_)))
  (repeat (first | (with_reducible refine R_seq ?_) | (with_reducible refine R_block_normal ?_)))
  (repeat (with_reducible refine G_seq ?_))
  refine G_region ?_
  refine GL_y rfl rfl (Y_loadA rfl (by repeat (first | exact .head _ | apply List.Mem.tail)) ag37 (by rfl)) ?_
  refine GL_y rfl rfl (Y_move rfl) ?_
  refine GL_y rfl rfl (Y_iop rfl rfl rfl) ?_
  refine GL_s rfl (S_all rfl rfl ag37 (by rfl) (by rfl) (by repeat (first | exact .head | apply Rem.tail)) (by rfl)) ?_
  refine GL_y rfl rfl (Y_assign rfl) ?_
  refine GL_nil ?_
  (repeat (first | (with_reducible refine R_seq ?_) | (with_reducible refine R_block_normal ?_)))
  (repeat (with_reducible refine G_seq ?_))
  refine G_ret ?_
  (repeat (first | (with_reducible refine R_then_ret ?_) | (with_reducible refine R_block_ret ?_)))
  refine R_ret (.ag rfl (by repeat (first | exact .head _ | apply List.Mem.tail)) (by exact ag37) (.tmp rfl .nil)) [] .nil ⟨rfl, rfl⟩
theorem less_law {x y x0 x1 x2 x3 y0 y1 y2 y3 d0 d1 d2 d3 b1 b2 b3 b4 : Nat} (e0 : x0 + w64 * b1 = y0 + 0 + d0) (e1 : x1 + w64 * b2 = y1 + b1 + d1) (e2 : x2 + w64 * b3 = y2 + b2 + d2) (e3 : x3 + w64 * b4 = y3 + b3 + d3)
    (l0 : d0 < w64) (l1 : d1 < w64) (l2 : d2 < w64) (l3 : d3 < w64) (hb : b4 ≤ 1) (ex : elN x0 x1 x2 x3 = x) (ey : elN y0 y1 y2 y3 = y) (hx : x < w256) (hy : y < w256) :
    elN d0 d1 d2 d3 = (x + w256 - y) % w256 ∧ (y ≤ x ↔ b4 = 0) := by
  have hs : x + w256 * b4 = y + elN d0 d1 d2 d3 := by
    simp only [elN, w64, w256] at *
    omega
  have hd := elN_lt l0 l1 l2 l3
  simp only [w256] at *
  have : b4 = 0 ∨ b4 = 1 := by omega
  rcases this with rfl | rfl <;> omega
theorem less_val {x y x0 x1 x2 x3 y0 y1 y2 y3 d0 d1 d2 d3 b1 b2 b3 b4 : Nat} (e0 : x0 + w64 * b1 = y0 + 0 + d0) (e1 : x1 + w64 * b2 = y1 + b1 + d1) (e2 : x2 + w64 * b3 = y2 + b2 + d2) (e3 : x3 + w64 * b4 = y3 + b3 + d3)
    (l0 : d0 < w64) (l1 : d1 < w64) (l2 : d2 < w64) (l3 : d3 < w64) (hb : b4 ≤ 1) (ex : elN x0 x1 x2 x3 = x) (ey : elN y0 y1 y2 y3 = y) (hx : x < w256) (hy : y < w256) :
    Value.tuple #[.agg [wv d0, wv d1, wv d2, wv d3].toArray, .bool (decide ((b4 : Int) = 0))] = .tuple #[.agg (elV ((x + w256 - y) % w256)).toArray, .bool (decide (y ≤ x))] := by
  have key := less_law e0 e1 e2 e3 l0 l1 l2 l3 hb ex ey hx hy
  have h2 : decide ((b4 : Int) = 0) = decide (y ≤ x) := by
    rw [decide_eq_decide, key.2]
    omega
  rw [← key.1, elV_N l0 l1 l2 l3, h2]
theorem less_is {x y : Nat} {w : World} (hx : x < w256) (hy : y < w256) : FnAt Try.prog 29 [.agg (elV x).toArray, .agg (elV y).toArray] [] w (Ret fun v N => v = .tuple #[.agg (elV ((x + w256 - y) % w256)).toArray, .bool (decide (y ≤ x))] ∧ N = []) := by
  refine (less_raw (x0 := wd x 0) (x1 := wd x 1) (x2 := wd x 2) (x3 := wd x 3) (y0 := wd y 0) (y1 := wd y 1) (y2 := wd y 2) (y3 := wd y 3)).ret fun v N q => ?_
  refine ⟨q.1.trans ?_, q.2⟩
  clear q
  obtain ⟨e0, l0⟩ := sb_eq (c := 0) (wd_lt x 0) (wd_lt y 0) (by decide)
  obtain ⟨e1, l1⟩ := sb_eq (wd_lt x 1) (wd_lt y 1) (sbc_le (wd x 0) (wd y 0) 0)
  obtain ⟨e2, l2⟩ := sb_eq (wd_lt x 2) (wd_lt y 2) (sbc_le (wd x 1) (wd y 1) (sbc (wd x 0) (wd y 0) 0))
  obtain ⟨e3, l3⟩ := sb_eq (wd_lt x 3) (wd_lt y 3) (sbc_le (wd x 2) (wd y 2) (sbc (wd x 1) (wd y 1) (sbc (wd x 0) (wd y 0) 0)))
  have hb := sbc_le (wd x 3) (wd y 3) (sbc (wd x 2) (wd y 2) (sbc (wd x 1) (wd y 1) (sbc (wd x 0) (wd y 0) 0)))
  have ex := elN_wd hx
  have ey := elN_wd hy
  exact less_val e0 e1 e2 e3 l0 l1 l2 l3 hb ex ey hx hy
end Go.Proofs.Ytefphcpaakhfbaa

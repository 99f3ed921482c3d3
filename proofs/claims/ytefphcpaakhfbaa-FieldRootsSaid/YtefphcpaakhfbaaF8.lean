/-
  bit, Root's functions, Inv.
-/
import Derived.Test.YtefphcpaakhfbaaF7
namespace Go.Proofs.Ytefphcpaakhfbaa
open Go Go.Sl Go.RowKit Go.Fp


theorem elV_nth0 {x i : Nat} (h : i < 4) : nth (elV x) (0 + i) = some (wv (wd x i)) := by rw [Nat.zero_add]; exact elV_nth h
set_option maxHeartbeats 4000000 in
theorem bit_is {x i : Nat} {w : World} (hi : i < 256) : FnAt Try.prog 40 [.agg (elV x).toArray, .int .i64 (i : Int)] [] w (Ret fun v N => v = .bool (btN x i) ∧ N = []) := by
  refine FnAt.intro Try.func40 rfl Try.ntmps40 rfl _ rfl ?_
  (repeat (with_reducible refine G_seq ?_))
  refine G_region ?_
  refine GL_w rfl rfl (W_boxA rfl fun b2 => ?_)
  refine GL_y rfl rfl (Y_assign rfl) ?_
  refine GL_nil ?_
  (repeat (first | (with_reducible refine R_seq ?_) | (with_reducible refine R_block_normal ?_)))
  (repeat (with_reducible refine G_seq ?_))
  refine G_region ?_
  refine GL_y rfl rfl (Y_move rfl) ?_
  refine GL_y rfl rfl (Y_quoN (b := 64) rfl rfl (by decide) (by omega)) ?_
  refine GL_y rfl rfl (Y_idxA1 ar37 rfl rfl (by omega)) ?_
  refine GL_y rfl rfl (Y_loadS rfl sc35 (by repeat (first | exact .head _ | apply List.Mem.tail)) (elV_nth0 (by omega))) ?_
  refine GL_y rfl rfl (Y_move rfl) ?_
  refine GL_y rfl rfl (Y_remN (b := 64) rfl rfl (by decide)) ?_
  refine GL_y rfl rfl (Y_shrN rfl rfl (by simp only [IntKind.bits]; omega)) ?_
  refine GL_y rfl rfl (Y_iop rfl rfl (iop_andU (k := 1) (Nat.lt_of_le_of_lt (Nat.div_le_self _ _) (wd_lt _ _)) (by decide))) ?_
  refine GL_y rfl rfl (Y_eqlN (b := 1) rfl rfl) ?_
  refine GL_y rfl rfl (Y_assign rfl) ?_
  refine GL_nil ?_
  (repeat (first | (with_reducible refine R_seq ?_) | (with_reducible refine R_block_normal ?_)))
  (repeat (with_reducible refine G_seq ?_))
  refine G_ret ?_
  (repeat (first | (with_reducible refine R_then_ret ?_) | (with_reducible refine R_block_ret ?_)))
  refine R_ret (.tmp rfl .nil) [] .nil ⟨congrArg Value.bool (bit_law x i), rfl⟩
set_option maxHeartbeats 4000000 in
theorem root1_is {i : Nat} {w : World} : FnAt Try.prog 41 [.int .i64 (i : Int)] [] w (Ret fun v N => v = .bool (decide (i > 0)) ∧ N = []) := by
  refine FnAt.intro Try.func41 rfl Try.ntmps41 rfl _ rfl ?_
  (repeat (with_reducible refine G_seq ?_))
  refine G_region ?_
  refine GL_y rfl rfl (Y_assign rfl) ?_
  refine GL_nil ?_
  (repeat (first | (with_reducible refine R_seq ?_) | (with_reducible refine R_block_normal ?_)))
  (repeat (with_reducible refine G_seq ?_))
  refine G_region ?_
  refine GL_y rfl rfl (Y_move rfl) ?_
  refine GL_y rfl rfl (Y_gtrN (b := 0) rfl rfl) ?_
  refine GL_y rfl rfl (Y_assign rfl) ?_
  refine GL_nil ?_
  (repeat (first | (with_reducible refine R_seq ?_) | (with_reducible refine R_block_normal ?_)))
  (repeat (with_reducible refine G_seq ?_))
  refine G_ret ?_
  (repeat (first | (with_reducible refine R_then_ret ?_) | (with_reducible refine R_block_ret ?_)))
  refine R_ret (.tmp rfl .nil) [] .nil ⟨rfl, rfl⟩
set_option maxHeartbeats 4000000 in
theorem root2_is {i : Nat} {w : World} : FnAt Try.prog 42 [.int .i64 (i : Int)] [] w (Ret fun v N => v = .bool (decide (i ≠ 2)) ∧ N = []) := by
  refine FnAt.intro Try.func42 rfl Try.ntmps42 rfl _ rfl ?_
  (repeat (with_reducible refine G_seq ?_))
  refine G_region ?_
  refine GL_y rfl rfl (Y_assign rfl) ?_
  refine GL_nil ?_
  (repeat (first | (with_reducible refine R_seq ?_) | (with_reducible refine R_block_normal ?_)))
  (repeat (with_reducible refine G_seq ?_))
  refine G_region ?_
  refine GL_y rfl rfl (Y_move rfl) ?_
  refine GL_y rfl rfl (Y_neqN (b := 2) rfl rfl) ?_
  refine GL_y rfl rfl (Y_assign rfl) ?_
  refine GL_nil ?_
  (repeat (first | (with_reducible refine R_seq ?_) | (with_reducible refine R_block_normal ?_)))
  (repeat (with_reducible refine G_seq ?_))
  refine G_ret ?_
  (repeat (first | (with_reducible refine R_then_ret ?_) | (with_reducible refine R_block_ret ?_)))
  refine R_ret (.tmp rfl .nil) [] .nil ⟨rfl, rfl⟩
theorem pe_inv : pe (btN (P - 2)) 255 255 = P - 2 := by decide +kernel
theorem pe_root1 : pe (fun i => decide (i > 0)) 252 252 = eR := by decide +kernel
theorem pe_root2 : pe (fun i => decide (i ≠ 2)) 253 253 = eI := by decide +kernel
theorem pinv_lt : P - 2 < w256 := by decide
theorem two_lt : 2 < w256 := by decide
theorem pm2 : (P + w256 - 2) % w256 = P - 2 := by decide
theorem less2 {w : World} : FnAt Try.prog 29 [.agg (elV P).toArray, .agg [wv 2, wv 0, wv 0, wv 0].toArray] [] w (Ret fun v N => v = .tuple #[.agg (elV (P - 2)).toArray, .bool true] ∧ N = []) := by
  have h := less_is (w := w) P_lt two_lt
  rw [pm2, elV_2, decide_eq_true (show 2 ≤ P by decide)] at h
  exact h
theorem inv_pw {e : Nat} {a : F} (he : e = P - 2) : a.val ^ e % P = (inv a).val := by rw [he]; rfl
theorem power_inv {a : F} {w : World} : FnAt Try.prog 39 [.agg (elV a.val).toArray, .int .i64 255, .func (.func 40) #[.agg (elV (P - 2)).toArray] #[]] [] w (Ret fun r N => r = .agg (elV (inv a).val).toArray ∧ N = []) :=
  power_v (n := 255) (f := 40) (fi := [.agg (elV (P - 2)).toArray]) (cap := []) (bt := btN (P - 2)) (F_lt a) (by decide) Try.call40 (fun i w hi => bit_is (by omega)) (inv_pw pe_inv)
theorem root_pw {e f : Nat} {a : F} (he : e = f) : a.val ^ e % P = (fp a f).val := by rw [he]; rfl
theorem power_root {a : F} {w : World} : FnAt Try.prog 39 [.agg (elV a.val).toArray, .int .i64 252, .func (.func 41) #[] #[]] [] w (Ret fun r N => r = .agg (elV (fp a eR).val).toArray ∧ N = []) :=
  power_v (n := 252) (f := 41) (fi := []) (cap := []) (bt := fun i => decide (i > 0)) (F_lt a) (by decide) Try.call41 (fun i w hi => root1_is) (root_pw pe_root1)
theorem two_val : (2 : F).val = 2 := by decide
theorem i_pw {e : Nat} (he : e = eI) : 2 ^ e % P = iF.val := by rw [he, iF, fp_val, two_val]
theorem power_i {w : World} : FnAt Try.prog 39 [.agg [wv 2, wv 0, wv 0, wv 0].toArray, .int .i64 253, .func (.func 42) #[] #[]] [] w (Ret fun r N => r = .agg (elV iF.val).toArray ∧ N = []) := by
  rw [← elV_2]
  exact power_v (n := 253) (f := 42) (fi := []) (cap := []) (bt := fun i => decide (i ≠ 2)) two_lt (by decide) Try.call42 (fun i w hi => root2_is) (i_pw pe_root2)
theorem read_F {a : F} {w : World} : FnAt Try.prog 28 [.agg (B (eb a)).toArray] [] w (Ret fun v N => v = .agg (elV a.val).toArray ∧ N = []) := by
  have h := read_is (w := w) (eb_len a)
  rwa [leN_eb] at h
theorem is_F {a : F} {w : World} : FnAt Try.prog 12 [.agg (B (eb a)).toArray] [] w (Ret fun v N => v = .bool true ∧ N = []) := is_v (eb_len a) (eb_is a)
theorem ne_zero_eb {a : F} (h : a ≠ 0) : decide (eb a = List.replicate 32 0) = false := by
  rw [← eb_zero]
  exact decide_eq_false fun e => h (eb_inj e)
theorem B_zero : B (List.replicate 32 0) = List.replicate 32 (bv 0) := by simp [B]
set_option maxHeartbeats 4000000 in
theorem invE_F {a : F} {w : World} (ha : a ≠ 0) : FnAt Try.prog 18 [.agg (B (eb a)).toArray] [] w (Ret fun v N => v = .tuple #[.agg (B (eb (inv a))).toArray, .int .i64 0] ∧ N = []) := by
  refine FnAt.intro Try.func18 rfl Try.ntmps18 rfl _ rfl ?_
  (repeat (with_reducible refine G_seq ?_))
  refine G_region ?_
  refine GL_w rfl rfl (W_boxA rfl fun b1 => ?_)
  refine GL_w rfl rfl (W_alloc zr22 fun b2 => ?_)
  refine GL_y rfl rfl (Y_assign rfl) ?_
  refine GL_nil ?_
  (repeat (first | (with_reducible refine R_seq ?_) | (with_reducible refine R_block_normal ?_)))
  (repeat (with_reducible refine G_seq ?_))
  refine G_block ?_
  (repeat (with_reducible refine G_seq ?_))
  refine G_region ?_
  refine GL_y rfl rfl (Y_loadA rfl (by repeat (first | exact .head _ | apply List.Mem.tail)) ag22 (by first | (rw [len_B, eb_len]) | (rw [len_B, fl_len, le32_len]) | (rw [len_B, le32_len]) | (rw [len_B]; assumption) | rfl)) ?_
  refine GL_call rfl rfl rfl rfl Try.call12 .nil (fun w hw => is_F) ?_
  rintro _ _ ⟨rfl, rfl⟩
  refine GL_y rfl rfl (Y_not rfl) ?_
  refine GL_y rfl rfl (Y_assign rfl) ?_
  refine GL_nil ?_
  (repeat (first | (with_reducible refine R_seq ?_) | (with_reducible refine R_block_normal ?_)))
  (repeat (with_reducible refine G_seq ?_))
  refine G_cond_f rfl (by first | rfl | decide | (simp; done) | (simp; omega)) ?_
  (repeat (with_reducible refine G_seq ?_))
  refine G_region ?_
  refine GL_y rfl rfl (Y_loadA rfl (by repeat (first | exact .head _ | apply List.Mem.tail)) ag22 (by first | (rw [len_B, eb_len]) | (rw [len_B, fl_len, le32_len]) | (rw [len_B, le32_len]) | (rw [len_B]; assumption) | rfl)) ?_
  refine GL_y rfl rfl (Y_build (v := .agg (B (List.replicate 32 0)).toArray) (vs := []) rfl (fun w => run_build w 22 _ _ (by kernel_rfl))) ?_
  refine GL_y rfl rfl ((Y_eqB eg22 ti22 rfl rfl (by first | exact eb_len _ | assumption) rfl).as _ (congrArg Value.bool (ne_zero_eb ha))) ?_
  refine GL_y rfl rfl (Y_assign rfl) ?_
  refine GL_nil ?_
  (repeat (first | (with_reducible refine R_seq ?_) | (with_reducible refine R_block_normal ?_)))
  (repeat (with_reducible refine G_seq ?_))
  refine G_cond_f rfl (by first | rfl | decide | (simp; done) | (simp; omega)) ?_
  (repeat (with_reducible refine G_seq ?_))
  refine G_skip ?_
  (repeat (first | (with_reducible refine R_seq ?_) | (with_reducible refine R_block_normal ?_)))
  (repeat (with_reducible refine G_seq ?_))
  refine G_region ?_
  refine GL_call rfl rfl rfl rfl Try.call30 .nil (fun w hw => prime_is) ?_
  rintro _ _ ⟨rfl, rfl⟩
  refine GL_y rfl rfl (Y_build (v := .agg [wv 2, wv 0, wv 0, wv 0].toArray) (vs := [(0, wv 2)]) rfl (fun w => run_build w 37 _ _ (by kernel_rfl))) ?_
  refine GL_call rfl rfl rfl rfl Try.call29 .nil (fun w hw => less2) ?_
  rintro _ _ ⟨rfl, rfl⟩
  refine GL_y rfl rfl (Y_move rfl) ?_
  refine GL_y rfl rfl (Y_extract rfl rfl) ?_
  refine GL_y rfl rfl (Y_extract rfl rfl) ?_
  refine GL_w rfl rfl (W_alloc zr37 fun b4 => ?_)
  refine GL_s rfl (S_all rfl rfl ag37 (by first | (rw [len_B, eb_len]) | (rw [len_B, fl_len, le32_len]) | (rw [len_B, le32_len]) | (rw [len_B]; assumption) | rfl) (by first | exact all_B _ | rfl) (by repeat (first | exact .head | apply Rem.tail)) (by first | (rw [len_B, eb_len]) | (rw [len_B, fl_len, le32_len]) | (rw [len_B, le32_len]) | (rw [len_B]; assumption) | rfl)) ?_
  refine GL_y rfl rfl (Y_assign rfl) ?_
  refine GL_nil ?_
  (repeat (first | (with_reducible refine R_seq ?_) | (with_reducible refine R_block_normal ?_)))
  (repeat (with_reducible refine G_seq ?_))
  refine G_draw [6] 8 rfl (by kernel_rfl) ?_
  refine GA_l 0 rfl (by kernel_rfl) (by kernel_rfl) (by kernel_rfl) (fun _ _ _ h => h) rfl rfl rfl rfl (Y_loadA rfl (by repeat (first | exact .head _ | apply List.Mem.tail)) ag22 (by first | (rw [len_B, eb_len]) | (rw [len_B, fl_len, le32_len]) | (rw [len_B, le32_len]) | (rw [len_B]; assumption) | rfl)) ?_
  refine GA_l 2 rfl (by kernel_rfl) (by kernel_rfl) (by kernel_rfl) (fun _ _ _ h => h) rfl rfl rfl rfl (Y_loadA rfl (by repeat (first | exact .head _ | apply List.Mem.tail)) ag37 (by first | (rw [len_B, eb_len]) | (rw [len_B, fl_len, le32_len]) | (rw [len_B, le32_len]) | (rw [len_B]; assumption) | rfl)) ?_
  refine GA_y 3 rfl (by kernel_rfl) (by kernel_rfl) (by kernel_rfl) (fun _ _ _ h => h) rfl rfl rfl (Y_makeFunc rfl rfl) ?_
  refine GA_one 1 (by kernel_rfl) ?_
  refine GO_call rfl rfl rfl rfl rfl rfl Try.call28 (fun w hw => read_F) ?_
  rintro _ _ ⟨rfl, rfl⟩
  refine GA_one 4 (by kernel_rfl) ?_
  refine GO_call rfl rfl rfl rfl rfl rfl Try.call39 (fun w hw => power_inv) ?_
  rintro _ _ ⟨rfl, rfl⟩
  refine GA_one 5 (by kernel_rfl) ?_
  refine GO_call rfl rfl rfl rfl rfl rfl Try.call25 (fun w hw => bytes_F) ?_
  rintro _ _ ⟨rfl, rfl⟩
  refine GA_one 6 (by kernel_rfl) ?_
  refine GO_s rfl rfl rfl (S_all rfl rfl ag22 (by first | (rw [len_B, eb_len]) | (rw [len_B, fl_len, le32_len]) | (rw [len_B, le32_len]) | (rw [len_B]; assumption) | rfl) (by first | exact all_B _ | rfl) (by repeat (first | exact .head | apply Rem.tail)) (by first | (rw [len_B, eb_len]) | (rw [len_B, fl_len, le32_len]) | (rw [len_B, le32_len]) | (rw [len_B]; assumption) | rfl)) ?_
  refine GA_y 7 rfl (by kernel_rfl) (by kernel_rfl) (by kernel_rfl) (fun _ _ _ h => h) rfl rfl rfl (Y_assign rfl) ?_
  refine GA_done (by kernel_rfl) ?_
  (repeat (first | (with_reducible refine R_seq ?_) | (with_reducible refine R_block_normal ?_)))
  (repeat (with_reducible refine G_seq ?_))
  refine G_ret ?_
  (repeat (first | (with_reducible refine R_then_ret ?_) | (with_reducible refine R_block_ret ?_)))
  refine R_ret (.ag rfl (by repeat (first | exact .head _ | apply List.Mem.tail)) (by exact ag22) (.tmp rfl .nil)) [] .nil ⟨rfl, rfl⟩
set_option maxHeartbeats 4000000 in
theorem invE_0 {w : World} : FnAt Try.prog 18 [.agg (B (eb 0)).toArray] [] w (Ret fun v N => v = .tuple #[.agg (B (eb 0)).toArray, .int .i64 20] ∧ N = []) := by
  refine FnAt.intro Try.func18 rfl Try.ntmps18 rfl _ rfl ?_
  (repeat (with_reducible refine G_seq ?_))
  refine G_region ?_
  refine GL_w rfl rfl (W_boxA rfl fun b1 => ?_)
  refine GL_w rfl rfl (W_alloc zr22 fun b2 => ?_)
  refine GL_y rfl rfl (Y_assign rfl) ?_
  refine GL_nil ?_
  (repeat (first | (with_reducible refine R_seq ?_) | (with_reducible refine R_block_normal ?_)))
  (repeat (with_reducible refine G_seq ?_))
  refine G_block ?_
  (repeat (with_reducible refine G_seq ?_))
  refine G_region ?_
  refine GL_y rfl rfl (Y_loadA rfl (by repeat (first | exact .head _ | apply List.Mem.tail)) ag22 (by first | (rw [len_B, eb_len]) | (rw [len_B, fl_len, le32_len]) | (rw [len_B, le32_len]) | (rw [len_B]; assumption) | rfl)) ?_
  refine GL_call rfl rfl rfl rfl Try.call12 .nil (fun w hw => is_F) ?_
  rintro _ _ ⟨rfl, rfl⟩
  refine GL_y rfl rfl (Y_not rfl) ?_
  refine GL_y rfl rfl (Y_assign rfl) ?_
  refine GL_nil ?_
  (repeat (first | (with_reducible refine R_seq ?_) | (with_reducible refine R_block_normal ?_)))
  (repeat (with_reducible refine G_seq ?_))
  refine G_cond_f rfl (by first | rfl | decide | (simp; done) | (simp; omega)) ?_
  (repeat (with_reducible refine G_seq ?_))
  refine G_region ?_
  refine GL_y rfl rfl (Y_loadA rfl (by repeat (first | exact .head _ | apply List.Mem.tail)) ag22 (by first | (rw [len_B, eb_len]) | (rw [len_B, fl_len, le32_len]) | (rw [len_B, le32_len]) | (rw [len_B]; assumption) | rfl)) ?_
  refine GL_y rfl rfl (Y_build (v := .agg (B (List.replicate 32 0)).toArray) (vs := []) rfl (fun w => run_build w 22 _ _ (by kernel_rfl))) ?_
  refine GL_y rfl rfl ((Y_eqB eg22 ti22 rfl rfl (by first | exact eb_len _ | assumption) rfl).as _ (congrArg Value.bool (decide_eq_true eb_zero))) ?_
  refine GL_y rfl rfl (Y_assign rfl) ?_
  refine GL_nil ?_
  (repeat (first | (with_reducible refine R_seq ?_) | (with_reducible refine R_block_normal ?_)))
  (repeat (with_reducible refine G_seq ?_))
  refine G_cond_t rfl (by first | rfl | decide | (simp; done) | (simp; omega)) ?_
  (repeat (with_reducible refine G_seq ?_))
  refine G_region ?_
  refine GL_y rfl rfl (Y_build (v := .agg (B (List.replicate 32 0)).toArray) (vs := []) rfl (fun w => run_build w 22 _ _ (by kernel_rfl))) ?_
  refine GL_s rfl (S_all rfl rfl ag22 (by first | (rw [len_B, eb_len]) | (rw [len_B, fl_len, le32_len]) | (rw [len_B, le32_len]) | (rw [len_B]; assumption) | rfl) (by first | exact all_B _ | rfl) (by repeat (first | exact .head | apply Rem.tail)) (by first | (rw [len_B, eb_len]) | (rw [len_B, fl_len, le32_len]) | (rw [len_B, le32_len]) | (rw [len_B]; assumption) | rfl)) ?_
  refine GL_y rfl rfl (Y_assign rfl) ?_
  refine GL_nil ?_
  (repeat (first | (with_reducible refine R_seq ?_) | (with_reducible refine R_block_normal ?_)))
  (repeat (with_reducible refine G_seq ?_))
  refine G_ret ?_
  (repeat (first | (with_reducible refine R_then_ret ?_) | (with_reducible refine R_block_ret ?_)))
  refine R_ret (.ag rfl (by repeat (first | exact .head _ | apply List.Mem.tail)) (by exact ag22) (.tmp rfl .nil)) [] .nil ⟨by rw [eb_zero]; rfl, rfl⟩
set_option maxHeartbeats 4000000 in
theorem invE_bad {l : List UInt8} {w : World} (hl : l.length = 32) (h : ¬ leN l < P) : FnAt Try.prog 18 [.agg (B l).toArray] [] w (Ret fun v N => v = .tuple #[.agg (B (eb 0)).toArray, .int .i64 1] ∧ N = []) := by
  refine FnAt.intro Try.func18 rfl Try.ntmps18 rfl _ rfl ?_
  (repeat (with_reducible refine G_seq ?_))
  refine G_region ?_
  refine GL_w rfl rfl (W_boxA rfl fun b1 => ?_)
  refine GL_w rfl rfl (W_alloc zr22 fun b2 => ?_)
  refine GL_y rfl rfl (Y_assign rfl) ?_
  refine GL_nil ?_
  (repeat (first | (with_reducible refine R_seq ?_) | (with_reducible refine R_block_normal ?_)))
  (repeat (with_reducible refine G_seq ?_))
  refine G_block ?_
  (repeat (with_reducible refine G_seq ?_))
  refine G_region ?_
  refine GL_y rfl rfl (Y_loadA rfl (by repeat (first | exact .head _ | apply List.Mem.tail)) ag22 (by first | (rw [len_B, eb_len]) | (rw [len_B, fl_len, le32_len]) | (rw [len_B, le32_len]) | (rw [len_B]; assumption) | rfl)) ?_
  refine GL_call rfl rfl rfl rfl Try.call12 .nil (fun w hw => is_v hl (decide_eq_false h)) ?_
  rintro _ _ ⟨rfl, rfl⟩
  refine GL_y rfl rfl (Y_not rfl) ?_
  refine GL_y rfl rfl (Y_assign rfl) ?_
  refine GL_nil ?_
  (repeat (first | (with_reducible refine R_seq ?_) | (with_reducible refine R_block_normal ?_)))
  (repeat (with_reducible refine G_seq ?_))
  refine G_cond_t rfl (by first | rfl | decide | (simp; done) | (simp; omega)) ?_
  (repeat (with_reducible refine G_seq ?_))
  refine G_region ?_
  refine GL_y rfl rfl (Y_build (v := .agg (B (List.replicate 32 0)).toArray) (vs := []) rfl (fun w => run_build w 22 _ _ (by kernel_rfl))) ?_
  refine GL_s rfl (S_all rfl rfl ag22 (by first | (rw [len_B, eb_len]) | (rw [len_B, fl_len, le32_len]) | (rw [len_B, le32_len]) | (rw [len_B]; assumption) | rfl) (by first | exact all_B _ | rfl) (by repeat (first | exact .head | apply Rem.tail)) (by first | (rw [len_B, eb_len]) | (rw [len_B, fl_len, le32_len]) | (rw [len_B, le32_len]) | (rw [len_B]; assumption) | rfl)) ?_
  refine GL_y rfl rfl (Y_assign rfl) ?_
  refine GL_nil ?_
  (repeat (first | (with_reducible refine R_seq ?_) | (with_reducible refine R_block_normal ?_)))
  (repeat (with_reducible refine G_seq ?_))
  refine G_ret ?_
  (repeat (first | (with_reducible refine R_then_ret ?_) | (with_reducible refine R_block_ret ?_)))
  refine R_ret (.ag rfl (by repeat (first | exact .head _ | apply List.Mem.tail)) (by exact ag22) (.tmp rfl .nil)) [] .nil ⟨by rw [eb_zero]; rfl, rfl⟩
end Go.Proofs.Ytefphcpaakhfbaa

/-
  Full, num, last, the reference's Is, add, mul.
-/
import Derived.Test.YtefphcpaakhfbaaL1
namespace Go.Proofs.Ytefphcpaakhfbaa
open Go Go.Sl Go.RowKit Go.Fp


set_option maxHeartbeats 4000000 in
theorem full_is {ao : Option Addr} {l c : Nat} {bs : List UInt8} {w : World} (hs : SlAt w ao (B bs)) (hl : l = bs.length) (hb : bs.length ≤ 32) : FnAt Try.prog 34 [.slice ao l c] [] w (Ret fun v N => v = .agg (B (le32 (leN bs))).toArray ∧ N = []) := by
  subst hl
  refine FnAt.intro Try.func34 rfl Try.ntmps34 rfl _ rfl ?_
  (repeat (with_reducible refine G_seq ?_))
  refine G_region ?_
  refine GL_w rfl rfl (W_alloc zr22 fun b2 => ?_)
  refine GL_nil ?_
  (repeat (first | (with_reducible refine R_seq ?_) | (with_reducible refine R_block_normal ?_)))
  (repeat (with_reducible refine G_seq ?_))
  refine G_region ?_
  refine GL_w rfl rfl (W_alloc zr22 fun b3 => ?_)
  refine GL_nil ?_
  (repeat (first | (with_reducible refine R_seq ?_) | (with_reducible refine R_block_normal ?_)))
  refine G_blk (zero32 (leN bs)) ?_
  (repeat (with_reducible refine G_seq ?_))
  refine G_region ?_
  refine GL_y rfl rfl (Y_assign rfl) ?_
  refine GL_nil ?_
  (repeat (first | (with_reducible refine R_seq ?_) | (with_reducible refine R_block_normal ?_)))
  (repeat (with_reducible refine G_seq ?_))
  refine G_block ?_
  (repeat (with_reducible refine G_seq ?_))
  refine G_loop (ι := Nat) (fun i => bs.length - i) (fun i => i ≤ bs.length) (fun i => [(0, .slice ao bs.length c), (2, .pointer (some ⟨b2, 0, none⟩)), (3, .pointer (some ⟨b3, 0, none⟩)), (4, .int .i64 (i : Int))]) (fun i => [⟨b3, 22, 32, B (fl (le32 (leN bs)) 0 i), (0, 0)⟩, ⟨b2, 22, 32, List.replicate 32 (bv 0), (0, 0)⟩]) 0 ?_ (⟨by first | rfl | decide, by first | rfl | decide, by first | rfl | decide, by first | rfl | decide, trivial⟩) (by repeat (first | exact .nil | exact Pick.rfl' _ | exact Pick.skip (Pick.rfl' _) | exact Pick.skip (Pick.skip (Pick.rfl' _)) | (apply Pick.cons; focus (repeat (first | exact .head | apply Rem.tail))))) ?_
  · exact Nat.zero_le _
  intro i hile
  (repeat (with_reducible refine G_seq ?_))
  refine G_region ?_
  refine GL_y rfl rfl (Y_move rfl) ?_
  refine GL_y rfl rfl (Y_move rfl) ?_
  refine GL_y rfl rfl (Y_len sl48 rfl) ?_
  refine GL_y rfl rfl (Y_lssN rfl rfl) ?_
  refine GL_y rfl rfl (Y_move rfl) ?_
  refine GL_bool 9 rfl (fun g9 => ?_) (fun g9 => ?_)
  · -- g9 True
    have hi : i < bs.length := of_decide_eq_true g9
    refine GL_y rfl rfl (Y_move rfl) ?_
    refine GL_y rfl rfl (Y_lssN (b := 32) rfl rfl) ?_
    refine GL_y rfl rfl (Y_pick rfl rfl rfl rfl) ?_
    refine GL_nil ?_
    (repeat (first | (with_reducible refine R_seq ?_) | (with_reducible refine R_block_normal ?_)))
    (repeat (with_reducible refine G_seq ?_))
    refine G_cond_t rfl (by exact decide_eq_true (by omega)) ?_
    (repeat (with_reducible refine G_seq ?_))
    refine G_skip ?_
    (repeat (first | (with_reducible refine R_seq ?_) | (with_reducible refine R_block_normal ?_)))
    (repeat (with_reducible refine G_seq ?_))
    refine G_block ?_
    (repeat (with_reducible refine G_seq ?_))
    refine G_region ?_
    refine GL_y rfl rfl (Y_move rfl) ?_
    refine GL_y rfl rfl (Y_move rfl) ?_
    refine GL_y rfl rfl (Y_move rfl) ?_
    refine GL_y rfl rfl (Y_bAt hs rfl rfl hi rfl) ?_
    refine GL_y rfl rfl (Y_bGet hs (by simp) rfl hi) ?_
    refine GL_y rfl rfl (Y_idxA1 ar22 rfl rfl (by omega)) ?_
    refine GL_s rfl (S_sc rfl sc5 rfl rfl (by repeat (first | exact .head | apply Rem.tail)) (full_st hb hi)) ?_
    refine GL_nil ?_
    (repeat (first | (with_reducible refine R_seq ?_) | (with_reducible refine R_block_normal ?_)))
    (repeat (with_reducible refine G_seq ?_))
    refine G_region ?_
    refine GL_y rfl rfl (Y_move rfl) ?_
    refine GL_y rfl rfl (Y_addN (b := 1) rfl rfl (by first | omega | decide)) ?_
    refine GL_y rfl rfl (Y_assign rfl) ?_
    refine GL_nil ?_
    (repeat (first | (with_reducible refine R_seq ?_) | (with_reducible refine R_block_normal ?_)))
    (repeat (with_reducible refine R_block_normal ?_))
    refine R_fam (i + 1) ?_ (⟨by first | rfl | decide, by first | rfl | decide, by first | rfl | decide, by first | rfl | decide, trivial⟩) (by repeat (first | exact .nil | exact Pick.rfl' _ | exact Pick.skip (Pick.rfl' _) | exact Pick.skip (Pick.skip (Pick.rfl' _)) | (apply Pick.cons; focus (repeat (first | exact .head | apply Rem.tail)))))
    exact ⟨by omega, by omega⟩
  · -- g9 False
    have hi : ¬ i < bs.length := of_decide_eq_false g9
    refine GL_skip rfl rfl ?_
    refine GL_skip rfl rfl ?_
    refine GL_y rfl rfl (Y_pick rfl rfl rfl rfl) ?_
    refine GL_nil ?_
    (repeat (first | (with_reducible refine R_seq ?_) | (with_reducible refine R_block_normal ?_)))
    (repeat (with_reducible refine G_seq ?_))
    refine G_cond_f rfl (by rfl) ?_
    (repeat (with_reducible refine G_seq ?_))
    refine G_exit ?_
    (repeat (first | (with_reducible refine R_then_exit ?_) | (with_reducible refine R_block_exit ?_) | (with_reducible refine R_block_other (by decide) ?_)))
    (repeat (first | (with_reducible refine R_seq ?_) | (with_reducible refine R_block_normal ?_)))
    have hie : i = bs.length := by omega
    subst hie
    refine G_blk (full_end hb) ?_
    (repeat (with_reducible refine G_seq ?_))
    refine G_region ?_
    refine GL_y rfl rfl (Y_loadA rfl (by repeat (first | exact .head _ | apply List.Mem.tail)) ag22 (by first | (rw [len_B, eb_len]) | (rw [len_B, fl_len, le32_len]) | (rw [len_B, le32_len]) | (rw [len_B]; assumption) | rfl)) ?_
    refine GL_s rfl (S_all rfl rfl ag22 (by first | (rw [len_B, eb_len]) | (rw [len_B, fl_len, le32_len]) | (rw [len_B, le32_len]) | (rw [len_B]; assumption) | rfl) (by first | exact all_B _ | rfl) (by repeat (first | exact .head | apply Rem.tail)) (by first | (rw [len_B, eb_len]) | (rw [len_B, fl_len, le32_len]) | (rw [len_B, le32_len]) | (rw [len_B]; assumption) | rfl)) ?_
    refine GL_nil ?_
    (repeat (first | (with_reducible refine R_seq ?_) | (with_reducible refine R_block_normal ?_)))
    (repeat (with_reducible refine G_seq ?_))
    refine G_ret ?_
    (repeat (first | (with_reducible refine R_then_ret ?_) | (with_reducible refine R_block_ret ?_)))
    refine R_ret (.ag rfl (by repeat (first | exact .head _ | apply List.Mem.tail)) (by exact ag22) .nil) [] .nil ⟨rfl, rfl⟩
theorem num_eq (n : UInt8) : n :: List.replicate 31 0 = le32 n.toNat := by
  have h : leN (n :: List.replicate 31 0) = n.toNat := by
    have : leN (List.replicate 31 0) = 0 := by decide
    simp only [leN, this]; omega
  rw [← h, le32_leN (by simp)]
set_option maxHeartbeats 4000000 in
theorem num_is {n : UInt8} {w : World} : FnAt Try.prog 19 [bv n] [] w (Ret fun v N => v = .agg (B (n :: List.replicate 31 0)).toArray ∧ N = []) := by
  refine FnAt.intro Try.func19 rfl Try.ntmps19 rfl _ rfl ?_
  (repeat (with_reducible refine G_seq ?_))
  refine G_region ?_
  refine GL_w rfl rfl (W_alloc zr22 fun b2 => ?_)
  refine GL_nil ?_
  (repeat (first | (with_reducible refine R_seq ?_) | (with_reducible refine R_block_normal ?_)))
  (repeat (with_reducible refine G_seq ?_))
  refine G_region ?_
  refine GL_y rfl rfl (Y_move rfl) ?_
  refine GL_y rfl rfl (Y_build (v := .agg (B (n :: List.replicate 31 0)).toArray) (vs := [(0, bv n)]) rfl (fun w => run_build w 22 _ _ (by kernel_rfl))) ?_
  refine GL_s rfl (S_all rfl rfl ag22 (by first | (rw [len_B, eb_len]) | (rw [len_B, fl_len, le32_len]) | (rw [len_B, le32_len]) | (rw [len_B]; assumption) | rfl) (by first | exact all_B _ | rfl) (by repeat (first | exact .head | apply Rem.tail)) (by first | (rw [len_B, eb_len]) | (rw [len_B, fl_len, le32_len]) | (rw [len_B, le32_len]) | (rw [len_B]; assumption) | rfl)) ?_
  refine GL_nil ?_
  (repeat (first | (with_reducible refine R_seq ?_) | (with_reducible refine R_block_normal ?_)))
  (repeat (with_reducible refine G_seq ?_))
  refine G_ret ?_
  (repeat (first | (with_reducible refine R_then_ret ?_) | (with_reducible refine R_block_ret ?_)))
  refine R_ret (.ag rfl (by repeat (first | exact .head _ | apply List.Mem.tail)) (by exact ag22) .nil) [] .nil ⟨rfl, rfl⟩
theorem num0 {w : World} : FnAt Try.prog 19 [.int .u8 0] [] w (Ret fun v N => v = .agg (B (eb 0)).toArray ∧ N = []) := by
  have h := num_is (n := 0) (w := w)
  rw [num_eq] at h
  exact h
theorem num1 {w : World} : FnAt Try.prog 19 [.int .u8 1] [] w (Ret fun v N => v = .agg (B (eb 1)).toArray ∧ N = []) := by
  have h := num_is (n := 1) (w := w)
  rw [num_eq] at h
  exact h
theorem num2 {w : World} : FnAt Try.prog 19 [.int .u8 2] [] w (Ret fun v N => v = .agg (B (eb 2)).toArray ∧ N = []) := by
  have h := num_is (n := 2) (w := w)
  rw [num_eq] at h
  exact h
theorem num4 {w : World} : FnAt Try.prog 19 [.int .u8 4] [] w (Ret fun v N => v = .agg (B (eb 4)).toArray ∧ N = []) := by
  have h := num_is (n := 4) (w := w)
  rw [num_eq] at h
  exact h
theorem last_eq : B ((236 : UInt8) :: pB.tail) = B (eb (-1)) := by
  exact congrArg B (by decide +kernel)
theorem full_P : le32 (leN pB) = pB := le32_leN pB_len
set_option maxHeartbeats 4000000 in
theorem last_is {w : World} : FnAt Try.prog 33 [] [] w (Ret fun v N => v = .agg (B (eb (-1))).toArray ∧ N = []) := by
  refine FnAt.intro Try.func33 rfl Try.ntmps33 rfl _ rfl ?_
  (repeat (with_reducible refine G_seq ?_))
  refine G_region ?_
  refine GL_w rfl rfl (W_alloc zr22 fun b0 => ?_)
  refine GL_nil ?_
  (repeat (first | (with_reducible refine R_seq ?_) | (with_reducible refine R_block_normal ?_)))
  (repeat (with_reducible refine G_seq ?_))
  refine G_region ?_
  refine GL_call rfl rfl rfl rfl Try.call32 .nil (fun w hw => p_is) ?_
  rintro _ _ ⟨b2, c2, rfl, rfl⟩
  refine GL_call rfl rfl rfl rfl Try.call34 .nil (fun w hw => full_is (SlAt.mk' (hw.cells (k := ⟨b2, 5, c2 * 1, B pB, (0, 0)⟩) (by repeat (first | exact .head _ | apply List.Mem.tail)))) pB_len.symm (by decide)) ?_
  rintro _ _ ⟨rfl, rfl⟩
  rw [full_P]
  refine GL_w rfl rfl (W_alloc zr22 fun b1 => ?_)
  refine GL_s rfl (S_all rfl rfl ag22 (by first | (rw [len_B, eb_len]) | (rw [len_B, fl_len, le32_len]) | (rw [len_B, le32_len]) | (rw [len_B]; assumption) | rfl) (by first | exact all_B _ | rfl) (by repeat (first | exact .head | apply Rem.tail)) (by first | (rw [len_B, eb_len]) | (rw [len_B, fl_len, le32_len]) | (rw [len_B, le32_len]) | (rw [len_B]; assumption) | rfl)) ?_
  refine GL_nil ?_
  (repeat (first | (with_reducible refine R_seq ?_) | (with_reducible refine R_block_normal ?_)))
  (repeat (with_reducible refine G_seq ?_))
  refine G_region ?_
  refine GL_y rfl rfl (Y_idxA1 (j := 0) ar22 rfl rfl (by first | omega | decide)) ?_
  refine GL_y rfl rfl (Y_loadS (v := bv 237) rfl sc5 (by repeat (first | exact .head _ | apply List.Mem.tail)) rfl) ?_
  refine GL_y rfl rfl (Y_iop (v := bv 236) rfl rfl rfl) ?_
  refine GL_y rfl rfl (Y_idxA1 (j := 0) ar22 rfl rfl (by first | omega | decide)) ?_
  refine GL_s rfl (S_sc (xs' := B ((236 : UInt8) :: pB.tail)) rfl sc5 rfl rfl (by repeat (first | exact .head | apply Rem.tail)) (by rfl)) ?_
  refine GL_nil ?_
  (repeat (first | (with_reducible refine R_seq ?_) | (with_reducible refine R_block_normal ?_)))
  refine G_blk last_eq ?_
  (repeat (with_reducible refine G_seq ?_))
  refine G_region ?_
  refine GL_y rfl rfl (Y_loadA rfl (by repeat (first | exact .head _ | apply List.Mem.tail)) ag22 (by first | (rw [len_B, eb_len]) | (rw [len_B, fl_len, le32_len]) | (rw [len_B, le32_len]) | (rw [len_B]; assumption) | rfl)) ?_
  refine GL_s rfl (S_all rfl rfl ag22 (by first | (rw [len_B, eb_len]) | (rw [len_B, fl_len, le32_len]) | (rw [len_B, le32_len]) | (rw [len_B]; assumption) | rfl) (by first | exact all_B _ | rfl) (by repeat (first | exact .head | apply Rem.tail)) (by first | (rw [len_B, eb_len]) | (rw [len_B, fl_len, le32_len]) | (rw [len_B, le32_len]) | (rw [len_B]; assumption) | rfl)) ?_
  refine GL_nil ?_
  (repeat (first | (with_reducible refine R_seq ?_) | (with_reducible refine R_block_normal ?_)))
  (repeat (with_reducible refine G_seq ?_))
  refine G_ret ?_
  (repeat (first | (with_reducible refine R_then_ret ?_) | (with_reducible refine R_block_ret ?_)))
  refine R_ret (.ag rfl (by repeat (first | exact .head _ | apply List.Mem.tail)) (by exact ag22) .nil) [] .nil ⟨rfl, rfl⟩
set_option maxHeartbeats 4000000 in
theorem refIs_is {l : List UInt8} {w : World} (hl : l.length = 32) : FnAt Try.prog 13 [.agg (B l).toArray] [] w (Ret fun v N => v = .bool (decide (leN l < P)) ∧ N = []) := by
  refine FnAt.intro Try.func13 rfl Try.ntmps13 rfl _ rfl ?_
  (repeat (with_reducible refine G_seq ?_))
  refine G_region ?_
  refine GL_w rfl rfl (W_boxA rfl fun b1 => ?_)
  refine GL_y rfl rfl (Y_assign rfl) ?_
  refine GL_nil ?_
  (repeat (first | (with_reducible refine R_seq ?_) | (with_reducible refine R_block_normal ?_)))
  (repeat (with_reducible refine G_seq ?_))
  refine G_drawB ([⟨b1, 22, (B l).length, B l, (0, 0)⟩]) 5 rfl (by kernel_rfl) ⟨_, by repeat (first | exact .nil | exact Pick.rfl' _ | exact Pick.skip (Pick.rfl' _) | exact Pick.skip (Pick.skip (Pick.rfl' _)) | (apply Pick.cons; focus (repeat (first | exact .head | apply Rem.tail))))⟩ ?_
  refine GB_y 0 rfl (by kernel_rfl) (by kernel_rfl) (by kernel_rfl) (fun _ _ _ h => h) rfl rfl (Y_slA ar22 rfl) ?_
  refine GB_one 1 (by kernel_rfl) ?_
  refine HO_call rfl rfl rfl rfl rfl Try.call32 .nil ⟨_, by repeat (first | exact .nil | exact Pick.rfl' _ | exact Pick.skip (Pick.rfl' _) | exact Pick.skip (Pick.skip (Pick.rfl' _)) | (apply Pick.cons; focus (repeat (first | exact .head | apply Rem.tail))))⟩ (fun w hw => p_is) ?_
  rintro _ _ ⟨b4, c4, rfl, rfl⟩
  refine GB_one 2 (by kernel_rfl) ?_
  refine HO_call rfl rfl rfl rfl rfl Try.call31 .nil ⟨_, by repeat (first | exact .nil | exact Pick.rfl' _ | exact Pick.skip (Pick.rfl' _) | exact Pick.skip (Pick.skip (Pick.rfl' _)) | (apply Pick.cons; focus (repeat (first | exact .head | apply Rem.tail))))⟩ (fun w hw => cmpE_is (SlAt.mk' (hw.cells (k := ⟨b1, 22, (B l).length, B l, (0, 0)⟩) (by repeat (first | exact .head _ | apply List.Mem.tail)))) (SlAt.mk' (hw.cells (k := ⟨b4, 5, c4 * 1, B pB, (0, 0)⟩) (by repeat (first | exact .head _ | apply List.Mem.tail)))) hl.symm pB_len.symm (by omega) (by decide)) ?_
  rintro _ _ ⟨rfl, rfl⟩
  rw [pB_N]
  refine GB_y 3 rfl (by kernel_rfl) (by kernel_rfl) (by kernel_rfl) (fun _ _ _ h => h) rfl rfl ((Y_iop rfl rfl rfl).as _ (congrArg Value.bool (le_is (leN l)))) ?_
  refine GB_y 4 rfl (by kernel_rfl) (by kernel_rfl) (by kernel_rfl) (fun _ _ _ h => h) rfl rfl (Y_assign rfl) ?_
  refine GB_done (by kernel_rfl) ?_
  (repeat (first | (with_reducible refine R_seq ?_) | (with_reducible refine R_block_normal ?_)))
  (repeat (with_reducible refine G_seq ?_))
  refine G_ret ?_
  (repeat (first | (with_reducible refine R_then_ret ?_) | (with_reducible refine R_block_ret ?_)))
  refine R_ret (.tmp rfl .nil) [] .nil ⟨rfl, rfl⟩
set_option maxHeartbeats 4000000 in
theorem ladd_F {a b : F} {w : World} : FnAt Try.prog 21 [.agg (B (eb a)).toArray, .agg (B (eb b)).toArray] [] w (Ret fun v N => v = .agg (B (eb (a + b))).toArray ∧ N = []) := by
  refine FnAt.intro Try.func21 rfl Try.ntmps21 rfl _ rfl ?_
  (repeat (with_reducible refine G_seq ?_))
  refine G_region ?_
  refine GL_w rfl rfl (W_boxA rfl fun b2 => ?_)
  refine GL_w rfl rfl (W_boxA rfl fun b3 => ?_)
  refine GL_w rfl rfl (W_alloc zr22 fun b4 => ?_)
  refine GL_nil ?_
  (repeat (first | (with_reducible refine R_seq ?_) | (with_reducible refine R_block_normal ?_)))
  (repeat (with_reducible refine G_seq ?_))
  refine G_region ?_
  refine GL_y rfl rfl (Y_loadA rfl (by repeat (first | exact .head _ | apply List.Mem.tail)) ag22 (by first | (rw [len_B, eb_len]) | (rw [len_B, fl_len, le32_len]) | (rw [len_B, le32_len]) | (rw [len_B]; assumption) | rfl)) ?_
  refine GL_y rfl rfl (Y_loadA rfl (by repeat (first | exact .head _ | apply List.Mem.tail)) ag22 (by first | (rw [len_B, eb_len]) | (rw [len_B, fl_len, le32_len]) | (rw [len_B, le32_len]) | (rw [len_B]; assumption) | rfl)) ?_
  refine GL_call rfl rfl rfl rfl Try.call9 .nil (fun w hw => addE_F) ?_
  rintro _ _ ⟨rfl, rfl⟩
  refine GL_y rfl rfl (Y_move rfl) ?_
  refine GL_y rfl rfl (Y_extract rfl rfl) ?_
  refine GL_y rfl rfl (Y_extract rfl rfl) ?_
  refine GL_w rfl rfl (W_alloc zr22 fun b5 => ?_)
  refine GL_s rfl (S_all rfl rfl ag22 (by first | (rw [len_B, eb_len]) | (rw [len_B, fl_len, le32_len]) | (rw [len_B, le32_len]) | (rw [len_B]; assumption) | rfl) (by first | exact all_B _ | rfl) (by repeat (first | exact .head | apply Rem.tail)) (by first | (rw [len_B, eb_len]) | (rw [len_B, fl_len, le32_len]) | (rw [len_B, le32_len]) | (rw [len_B]; assumption) | rfl)) ?_
  refine GL_y rfl rfl (Y_assign rfl) ?_
  refine GL_nil ?_
  (repeat (first | (with_reducible refine R_seq ?_) | (with_reducible refine R_block_normal ?_)))
  (repeat (with_reducible refine G_seq ?_))
  refine G_region ?_
  refine GL_y rfl rfl (Y_loadA rfl (by repeat (first | exact .head _ | apply List.Mem.tail)) ag22 (by first | (rw [len_B, eb_len]) | (rw [len_B, fl_len, le32_len]) | (rw [len_B, le32_len]) | (rw [len_B]; assumption) | rfl)) ?_
  refine GL_s rfl (S_all rfl rfl ag22 (by first | (rw [len_B, eb_len]) | (rw [len_B, fl_len, le32_len]) | (rw [len_B, le32_len]) | (rw [len_B]; assumption) | rfl) (by first | exact all_B _ | rfl) (by repeat (first | exact .head | apply Rem.tail)) (by first | (rw [len_B, eb_len]) | (rw [len_B, fl_len, le32_len]) | (rw [len_B, le32_len]) | (rw [len_B]; assumption) | rfl)) ?_
  refine GL_nil ?_
  (repeat (first | (with_reducible refine R_seq ?_) | (with_reducible refine R_block_normal ?_)))
  (repeat (with_reducible refine G_seq ?_))
  refine G_ret ?_
  (repeat (first | (with_reducible refine R_then_ret ?_) | (with_reducible refine R_block_ret ?_)))
  refine R_ret (.ag rfl (by repeat (first | exact .head _ | apply List.Mem.tail)) (by exact ag22) .nil) [] .nil ⟨rfl, rfl⟩
set_option maxHeartbeats 4000000 in
theorem lmul_F {a b : F} {w : World} : FnAt Try.prog 22 [.agg (B (eb a)).toArray, .agg (B (eb b)).toArray] [] w (Ret fun v N => v = .agg (B (eb (a * b))).toArray ∧ N = []) := by
  refine FnAt.intro Try.func22 rfl Try.ntmps22 rfl _ rfl ?_
  (repeat (with_reducible refine G_seq ?_))
  refine G_region ?_
  refine GL_w rfl rfl (W_boxA rfl fun b2 => ?_)
  refine GL_w rfl rfl (W_boxA rfl fun b3 => ?_)
  refine GL_w rfl rfl (W_alloc zr22 fun b4 => ?_)
  refine GL_nil ?_
  (repeat (first | (with_reducible refine R_seq ?_) | (with_reducible refine R_block_normal ?_)))
  (repeat (with_reducible refine G_seq ?_))
  refine G_region ?_
  refine GL_y rfl rfl (Y_loadA rfl (by repeat (first | exact .head _ | apply List.Mem.tail)) ag22 (by first | (rw [len_B, eb_len]) | (rw [len_B, fl_len, le32_len]) | (rw [len_B, le32_len]) | (rw [len_B]; assumption) | rfl)) ?_
  refine GL_y rfl rfl (Y_loadA rfl (by repeat (first | exact .head _ | apply List.Mem.tail)) ag22 (by first | (rw [len_B, eb_len]) | (rw [len_B, fl_len, le32_len]) | (rw [len_B, le32_len]) | (rw [len_B]; assumption) | rfl)) ?_
  refine GL_call rfl rfl rfl rfl Try.call11 .nil (fun w hw => mulE_F) ?_
  rintro _ _ ⟨rfl, rfl⟩
  refine GL_y rfl rfl (Y_move rfl) ?_
  refine GL_y rfl rfl (Y_extract rfl rfl) ?_
  refine GL_y rfl rfl (Y_extract rfl rfl) ?_
  refine GL_w rfl rfl (W_alloc zr22 fun b5 => ?_)
  refine GL_s rfl (S_all rfl rfl ag22 (by first | (rw [len_B, eb_len]) | (rw [len_B, fl_len, le32_len]) | (rw [len_B, le32_len]) | (rw [len_B]; assumption) | rfl) (by first | exact all_B _ | rfl) (by repeat (first | exact .head | apply Rem.tail)) (by first | (rw [len_B, eb_len]) | (rw [len_B, fl_len, le32_len]) | (rw [len_B, le32_len]) | (rw [len_B]; assumption) | rfl)) ?_
  refine GL_y rfl rfl (Y_assign rfl) ?_
  refine GL_nil ?_
  (repeat (first | (with_reducible refine R_seq ?_) | (with_reducible refine R_block_normal ?_)))
  (repeat (with_reducible refine G_seq ?_))
  refine G_region ?_
  refine GL_y rfl rfl (Y_loadA rfl (by repeat (first | exact .head _ | apply List.Mem.tail)) ag22 (by first | (rw [len_B, eb_len]) | (rw [len_B, fl_len, le32_len]) | (rw [len_B, le32_len]) | (rw [len_B]; assumption) | rfl)) ?_
  refine GL_s rfl (S_all rfl rfl ag22 (by first | (rw [len_B, eb_len]) | (rw [len_B, fl_len, le32_len]) | (rw [len_B, le32_len]) | (rw [len_B]; assumption) | rfl) (by first | exact all_B _ | rfl) (by repeat (first | exact .head | apply Rem.tail)) (by first | (rw [len_B, eb_len]) | (rw [len_B, fl_len, le32_len]) | (rw [len_B, le32_len]) | (rw [len_B]; assumption) | rfl)) ?_
  refine GL_nil ?_
  (repeat (first | (with_reducible refine R_seq ?_) | (with_reducible refine R_block_normal ?_)))
  (repeat (with_reducible refine G_seq ?_))
  refine G_ret ?_
  (repeat (first | (with_reducible refine R_then_ret ?_) | (with_reducible refine R_block_ret ?_)))
  refine R_ret (.ag rfl (by repeat (first | exact .head _ | apply List.Mem.tail)) (by exact ag22) .nil) [] .nil ⟨rfl, rfl⟩
end Go.Proofs.Ytefphcpaakhfbaa

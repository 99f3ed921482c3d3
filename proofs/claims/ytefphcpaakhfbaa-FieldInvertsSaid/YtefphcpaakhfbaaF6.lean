/-
  Is, two, Add, Sub, Mul.
-/
import Derived.Test.YtefphcpaakhfbaaF5
namespace Go.Proofs.Ytefphcpaakhfbaa
open Go Go.Sl Go.RowKit Go.Fp

theorem sc23 : TScal Try.prog 23 := ⟨_, Try.underlying23, rfl, by kernel_rfl⟩
theorem sc3 : TScal Try.prog 3 := ⟨_, Try.underlying3, rfl, by kernel_rfl⟩
/-- An element's bytes. -/
def eb (a : F) : List UInt8 := le32 a.val
theorem eb_len (a : F) : (eb a).length = 32 := le32_len _
theorem lenB_eb (a : F) : (B (eb a)).length = 32 := by rw [len_B, eb_len]
theorem P_lt : P < w256 := by decide
theorem is_dec (x : Nat) : (!decide (P ≤ x)) = decide (x < P) := by
  by_cases h : P ≤ x
  · rw [decide_eq_true h, decide_eq_false (Nat.not_lt.2 h)]; rfl
  · rw [decide_eq_false h, decide_eq_true (Nat.lt_of_not_le h)]; rfl
set_option maxHeartbeats 4000000 in
theorem isE_is {l : List UInt8} {w : World} (hl : l.length = 32) : FnAt Try.prog 12 [.agg (B l).toArray] [] w (Ret fun v N => v = .bool (decide (leN l < P)) ∧ N = []) := by
  refine FnAt.intro Try.func12 rfl Try.ntmps12 rfl _ rfl ?_
  (repeat (with_reducible refine G_seq ?_))
  refine G_region ?_
  refine GL_w rfl rfl (W_boxA rfl fun b1 => ?_)
  refine GL_y rfl rfl (Y_assign rfl) ?_
  refine GL_nil ?_
  (repeat (first | (with_reducible refine R_seq ?_) | (with_reducible refine R_block_normal ?_)))
  (repeat (with_reducible refine G_seq ?_))
  refine G_region ?_
  refine GL_y rfl rfl (Y_loadA rfl (by repeat (first | exact .head _ | apply List.Mem.tail)) ag22 (by first | (rw [len_B, eb_len]) | (rw [len_B, fl_len, le32_len]) | (rw [len_B, le32_len]) | (rw [len_B]; assumption) | rfl)) ?_
  refine GL_call rfl rfl rfl rfl Try.call28 .nil (fun w hw => read_is hl) ?_
  rintro _ _ ⟨rfl, rfl⟩
  refine GL_call rfl rfl rfl rfl Try.call30 .nil (fun w hw => prime_is) ?_
  rintro _ _ ⟨rfl, rfl⟩
  refine GL_call rfl rfl rfl rfl Try.call29 .nil (fun w hw => less_is (leN_lt32 hl) P_lt) ?_
  rintro _ _ ⟨rfl, rfl⟩
  refine GL_y rfl rfl (Y_move rfl) ?_
  refine GL_y rfl rfl (Y_extract rfl rfl) ?_
  refine GL_y rfl rfl (Y_extract rfl rfl) ?_
  refine GL_w rfl rfl (W_alloc zr37 fun b3 => ?_)
  refine GL_s rfl (S_all rfl rfl ag37 (by first | (rw [len_B, eb_len]) | (rw [len_B, fl_len, le32_len]) | (rw [len_B, le32_len]) | (rw [len_B]; assumption) | rfl) (by first | exact all_B _ | rfl) (by repeat (first | exact .head | apply Rem.tail)) (by first | (rw [len_B, eb_len]) | (rw [len_B, fl_len, le32_len]) | (rw [len_B, le32_len]) | (rw [len_B]; assumption) | rfl)) ?_
  refine GL_y rfl rfl (Y_assign rfl) ?_
  refine GL_nil ?_
  (repeat (first | (with_reducible refine R_seq ?_) | (with_reducible refine R_block_normal ?_)))
  (repeat (with_reducible refine G_seq ?_))
  refine G_region ?_
  refine GL_y rfl rfl (Y_move rfl) ?_
  refine GL_y rfl rfl (Y_not rfl) ?_
  refine GL_y rfl rfl (Y_assign rfl) ?_
  refine GL_nil ?_
  (repeat (first | (with_reducible refine R_seq ?_) | (with_reducible refine R_block_normal ?_)))
  (repeat (with_reducible refine G_seq ?_))
  refine G_ret ?_
  (repeat (first | (with_reducible refine R_then_ret ?_) | (with_reducible refine R_block_ret ?_)))
  refine R_ret (.tmp rfl .nil) [] .nil ⟨congrArg Value.bool (is_dec (leN l)), rfl⟩
theorem is_v {l : List UInt8} {w : World} {b : Bool} (hl : l.length = 32) (hb : decide (leN l < P) = b) : FnAt Try.prog 12 [.agg (B l).toArray] [] w (Ret fun v N => v = .bool b ∧ N = []) := hb ▸ isE_is hl
theorem elV_0 : elV 0 = [wv 0, wv 0, wv 0, wv 0] := by
  have h0 : wd 0 0 = 0 := by decide
  have h1 : wd 0 1 = 0 := by decide
  have h2 : wd 0 2 = 0 := by decide
  have h3 : wd 0 3 = 0 := by decide
  simp only [elV, h0, h1, h2, h3]
set_option maxHeartbeats 4000000 in
theorem two_ok {l m : List UInt8} {w : World} (hl : l.length = 32) (hm : m.length = 32) (h1 : decide (leN l < P) = true) (h2 : decide (leN m < P) = true) :
    FnAt Try.prog 23 [.agg (B l).toArray, .agg (B m).toArray] [] w (Ret fun v N => v = .tuple #[.agg (elV (leN l)).toArray, .agg (elV (leN m)).toArray, .int .i64 0] ∧ N = []) := by
  refine FnAt.intro Try.func23 rfl Try.ntmps23 rfl _ rfl ?_
  (repeat (with_reducible refine G_seq ?_))
  refine G_region ?_
  refine GL_w rfl rfl (W_boxA rfl fun b2 => ?_)
  refine GL_w rfl rfl (W_boxA rfl fun b3 => ?_)
  refine GL_w rfl rfl (W_alloc zr37 fun b4 => ?_)
  refine GL_w rfl rfl (W_alloc zr37 fun b5 => ?_)
  refine GL_y rfl rfl (Y_assign rfl) ?_
  refine GL_nil ?_
  (repeat (first | (with_reducible refine R_seq ?_) | (with_reducible refine R_block_normal ?_)))
  (repeat (with_reducible refine G_seq ?_))
  refine G_region ?_
  refine GL_y rfl rfl (Y_loadA rfl (by repeat (first | exact .head _ | apply List.Mem.tail)) ag22 (by first | (rw [len_B, eb_len]) | (rw [len_B, fl_len, le32_len]) | (rw [len_B, le32_len]) | (rw [len_B]; assumption) | rfl)) ?_
  refine GL_call rfl rfl rfl rfl Try.call12 .nil (fun w hw => is_v hl h1) ?_
  rintro _ _ ⟨rfl, rfl⟩
  refine GL_y rfl rfl (Y_not rfl) ?_
  refine GL_y rfl rfl (Y_move rfl) ?_
  refine GL_y rfl rfl (Y_loadA rfl (by repeat (first | exact .head _ | apply List.Mem.tail)) ag22 (by first | (rw [len_B, eb_len]) | (rw [len_B, fl_len, le32_len]) | (rw [len_B, le32_len]) | (rw [len_B]; assumption) | rfl)) ?_
  refine GL_call rfl rfl rfl rfl Try.call12 .nil (fun w hw => is_v hm h2) ?_
  rintro _ _ ⟨rfl, rfl⟩
  refine GL_y rfl rfl (Y_not rfl) ?_
  refine GL_y rfl rfl (Y_pick rfl rfl rfl rfl) ?_
  refine GL_nil ?_
  (repeat (first | (with_reducible refine R_seq ?_) | (with_reducible refine R_block_normal ?_)))
  (repeat (with_reducible refine G_seq ?_))
  refine G_cond_f rfl (by first | rfl | decide | (simp; done) | (simp; omega)) ?_
  (repeat (with_reducible refine G_seq ?_))
  refine G_skip ?_
  (repeat (first | (with_reducible refine R_seq ?_) | (with_reducible refine R_block_normal ?_)))
  (repeat (with_reducible refine G_seq ?_))
  refine G_drawB ([⟨b2, 22, (B l).length, B l, (0, 0)⟩, ⟨b3, 22, (B m).length, B m, (0, 0)⟩]) 7 rfl (by kernel_rfl) ⟨_, by repeat (first | exact .nil | exact Pick.rfl' _ | exact Pick.skip (Pick.rfl' _) | exact Pick.skip (Pick.skip (Pick.rfl' _)) | (apply Pick.cons; focus (repeat (first | exact .head | apply Rem.tail))))⟩ ?_
  refine GB_l 0 rfl (by kernel_rfl) (by kernel_rfl) (by kernel_rfl) (fun _ _ _ h => h) rfl rfl (Y_loadA rfl (by repeat (first | exact .head _ | apply List.Mem.tail)) ag22 (by first | (rw [len_B, eb_len]) | (rw [len_B, fl_len, le32_len]) | (rw [len_B, le32_len]) | (rw [len_B]; assumption) | rfl)) ?_
  refine GB_l 2 rfl (by kernel_rfl) (by kernel_rfl) (by kernel_rfl) (fun _ _ _ h => h) rfl rfl (Y_loadA rfl (by repeat (first | exact .head _ | apply List.Mem.tail)) ag22 (by first | (rw [len_B, eb_len]) | (rw [len_B, fl_len, le32_len]) | (rw [len_B, le32_len]) | (rw [len_B]; assumption) | rfl)) ?_
  refine GB_one 1 (by kernel_rfl) ?_
  refine HO_call rfl rfl rfl rfl rfl Try.call28 .nil ⟨_, by repeat (first | exact .nil | exact Pick.rfl' _ | exact Pick.skip (Pick.rfl' _) | exact Pick.skip (Pick.skip (Pick.rfl' _)) | (apply Pick.cons; focus (repeat (first | exact .head | apply Rem.tail))))⟩ (fun w hw => read_is hl) ?_
  rintro _ _ ⟨rfl, rfl⟩
  refine GB_one 3 (by kernel_rfl) ?_
  refine HO_call rfl rfl rfl rfl rfl Try.call28 .nil ⟨_, by repeat (first | exact .nil | exact Pick.rfl' _ | exact Pick.skip (Pick.rfl' _) | exact Pick.skip (Pick.skip (Pick.rfl' _)) | (apply Pick.cons; focus (repeat (first | exact .head | apply Rem.tail))))⟩ (fun w hw => read_is hm) ?_
  rintro _ _ ⟨rfl, rfl⟩
  refine GB_one 4 (by kernel_rfl) ?_
  refine HO_s rfl rfl (S_all rfl rfl ag37 (by first | (rw [len_B, eb_len]) | (rw [len_B, fl_len, le32_len]) | (rw [len_B, le32_len]) | (rw [len_B]; assumption) | rfl) (by first | exact all_B _ | rfl) (by repeat (first | exact .head | apply Rem.tail)) (by first | (rw [len_B, eb_len]) | (rw [len_B, fl_len, le32_len]) | (rw [len_B, le32_len]) | (rw [len_B]; assumption) | rfl)) ⟨_, by repeat (first | exact .nil | exact Pick.rfl' _ | exact Pick.skip (Pick.rfl' _) | exact Pick.skip (Pick.skip (Pick.rfl' _)) | (apply Pick.cons; focus (repeat (first | exact .head | apply Rem.tail))))⟩ ?_
  refine GB_one 5 (by kernel_rfl) ?_
  refine HO_s rfl rfl (S_all rfl rfl ag37 (by first | (rw [len_B, eb_len]) | (rw [len_B, fl_len, le32_len]) | (rw [len_B, le32_len]) | (rw [len_B]; assumption) | rfl) (by first | exact all_B _ | rfl) (by repeat (first | exact .head | apply Rem.tail)) (by first | (rw [len_B, eb_len]) | (rw [len_B, fl_len, le32_len]) | (rw [len_B, le32_len]) | (rw [len_B]; assumption) | rfl)) ⟨_, by repeat (first | exact .nil | exact Pick.rfl' _ | exact Pick.skip (Pick.rfl' _) | exact Pick.skip (Pick.skip (Pick.rfl' _)) | (apply Pick.cons; focus (repeat (first | exact .head | apply Rem.tail))))⟩ ?_
  refine GB_y 6 rfl (by kernel_rfl) (by kernel_rfl) (by kernel_rfl) (fun _ _ _ h => h) rfl rfl (Y_assign rfl) ?_
  refine GB_done (by kernel_rfl) ?_
  (repeat (first | (with_reducible refine R_seq ?_) | (with_reducible refine R_block_normal ?_)))
  (repeat (with_reducible refine G_seq ?_))
  refine G_ret ?_
  (repeat (first | (with_reducible refine R_then_ret ?_) | (with_reducible refine R_block_ret ?_)))
  refine R_ret (.ag rfl (by repeat (first | exact .head _ | apply List.Mem.tail)) (by exact ag37) (.ag rfl (by repeat (first | exact .head _ | apply List.Mem.tail)) (by exact ag37) (.tmp rfl .nil))) [] .nil ⟨rfl, rfl⟩
set_option maxHeartbeats 4000000 in
theorem two_bad1 {l m : List UInt8} {w : World} (hl : l.length = 32) (h1 : decide (leN l < P) = false) :
    FnAt Try.prog 23 [.agg (B l).toArray, .agg (B m).toArray] [] w (Ret fun v N => v = .tuple #[.agg (elV 0).toArray, .agg (elV 0).toArray, .int .i64 1] ∧ N = []) := by
  rw [elV_0]
  refine FnAt.intro Try.func23 rfl Try.ntmps23 rfl _ rfl ?_
  (repeat (with_reducible refine G_seq ?_))
  refine G_region ?_
  refine GL_w rfl rfl (W_boxA rfl fun b2 => ?_)
  refine GL_w rfl rfl (W_boxA rfl fun b3 => ?_)
  refine GL_w rfl rfl (W_alloc zr37 fun b4 => ?_)
  refine GL_w rfl rfl (W_alloc zr37 fun b5 => ?_)
  refine GL_y rfl rfl (Y_assign rfl) ?_
  refine GL_nil ?_
  (repeat (first | (with_reducible refine R_seq ?_) | (with_reducible refine R_block_normal ?_)))
  (repeat (with_reducible refine G_seq ?_))
  refine G_region ?_
  refine GL_y rfl rfl (Y_loadA rfl (by repeat (first | exact .head _ | apply List.Mem.tail)) ag22 (by first | (rw [len_B, eb_len]) | (rw [len_B, fl_len, le32_len]) | (rw [len_B, le32_len]) | (rw [len_B]; assumption) | rfl)) ?_
  refine GL_call rfl rfl rfl rfl Try.call12 .nil (fun w hw => is_v hl h1) ?_
  rintro _ _ ⟨rfl, rfl⟩
  refine GL_y rfl rfl (Y_not rfl) ?_
  refine GL_y rfl rfl (Y_move rfl) ?_
  refine GL_skip rfl rfl ?_
  refine GL_skip rfl rfl ?_
  refine GL_skip rfl rfl ?_
  refine GL_y rfl rfl (Y_pick rfl rfl rfl rfl) ?_
  refine GL_nil ?_
  (repeat (first | (with_reducible refine R_seq ?_) | (with_reducible refine R_block_normal ?_)))
  (repeat (with_reducible refine G_seq ?_))
  refine G_cond_t rfl (by first | rfl | decide | (simp; done) | (simp; omega)) ?_
  (repeat (with_reducible refine G_seq ?_))
  refine G_region ?_
  refine GL_y rfl rfl (Y_build (v := .agg [wv 0, wv 0, wv 0, wv 0].toArray) (vs := []) rfl (fun w => run_build w 37 _ _ (by kernel_rfl))) ?_
  refine GL_y rfl rfl (Y_build (v := .agg [wv 0, wv 0, wv 0, wv 0].toArray) (vs := []) rfl (fun w => run_build w 37 _ _ (by kernel_rfl))) ?_
  refine GL_s rfl (S_all rfl rfl ag37 (by first | (rw [len_B, eb_len]) | (rw [len_B, fl_len, le32_len]) | (rw [len_B, le32_len]) | (rw [len_B]; assumption) | rfl) (by first | exact all_B _ | rfl) (by repeat (first | exact .head | apply Rem.tail)) (by first | (rw [len_B, eb_len]) | (rw [len_B, fl_len, le32_len]) | (rw [len_B, le32_len]) | (rw [len_B]; assumption) | rfl)) ?_
  refine GL_s rfl (S_all rfl rfl ag37 (by first | (rw [len_B, eb_len]) | (rw [len_B, fl_len, le32_len]) | (rw [len_B, le32_len]) | (rw [len_B]; assumption) | rfl) (by first | exact all_B _ | rfl) (by repeat (first | exact .head | apply Rem.tail)) (by first | (rw [len_B, eb_len]) | (rw [len_B, fl_len, le32_len]) | (rw [len_B, le32_len]) | (rw [len_B]; assumption) | rfl)) ?_
  refine GL_y rfl rfl (Y_assign rfl) ?_
  refine GL_nil ?_
  (repeat (first | (with_reducible refine R_seq ?_) | (with_reducible refine R_block_normal ?_)))
  (repeat (with_reducible refine G_seq ?_))
  refine G_ret ?_
  (repeat (first | (with_reducible refine R_then_ret ?_) | (with_reducible refine R_block_ret ?_)))
  refine R_ret (.ag rfl (by repeat (first | exact .head _ | apply List.Mem.tail)) (by exact ag37) (.ag rfl (by repeat (first | exact .head _ | apply List.Mem.tail)) (by exact ag37) (.tmp rfl .nil))) [] .nil ⟨rfl, rfl⟩
set_option maxHeartbeats 4000000 in
theorem two_bad2 {l m : List UInt8} {w : World} (hl : l.length = 32) (hm : m.length = 32) (h1 : decide (leN l < P) = true) (h2 : decide (leN m < P) = false) :
    FnAt Try.prog 23 [.agg (B l).toArray, .agg (B m).toArray] [] w (Ret fun v N => v = .tuple #[.agg (elV 0).toArray, .agg (elV 0).toArray, .int .i64 1] ∧ N = []) := by
  rw [elV_0]
  refine FnAt.intro Try.func23 rfl Try.ntmps23 rfl _ rfl ?_
  (repeat (with_reducible refine G_seq ?_))
  refine G_region ?_
  refine GL_w rfl rfl (W_boxA rfl fun b2 => ?_)
  refine GL_w rfl rfl (W_boxA rfl fun b3 => ?_)
  refine GL_w rfl rfl (W_alloc zr37 fun b4 => ?_)
  refine GL_w rfl rfl (W_alloc zr37 fun b5 => ?_)
  refine GL_y rfl rfl (Y_assign rfl) ?_
  refine GL_nil ?_
  (repeat (first | (with_reducible refine R_seq ?_) | (with_reducible refine R_block_normal ?_)))
  (repeat (with_reducible refine G_seq ?_))
  refine G_region ?_
  refine GL_y rfl rfl (Y_loadA rfl (by repeat (first | exact .head _ | apply List.Mem.tail)) ag22 (by first | (rw [len_B, eb_len]) | (rw [len_B, fl_len, le32_len]) | (rw [len_B, le32_len]) | (rw [len_B]; assumption) | rfl)) ?_
  refine GL_call rfl rfl rfl rfl Try.call12 .nil (fun w hw => is_v hl h1) ?_
  rintro _ _ ⟨rfl, rfl⟩
  refine GL_y rfl rfl (Y_not rfl) ?_
  refine GL_y rfl rfl (Y_move rfl) ?_
  refine GL_y rfl rfl (Y_loadA rfl (by repeat (first | exact .head _ | apply List.Mem.tail)) ag22 (by first | (rw [len_B, eb_len]) | (rw [len_B, fl_len, le32_len]) | (rw [len_B, le32_len]) | (rw [len_B]; assumption) | rfl)) ?_
  refine GL_call rfl rfl rfl rfl Try.call12 .nil (fun w hw => is_v hm h2) ?_
  rintro _ _ ⟨rfl, rfl⟩
  refine GL_y rfl rfl (Y_not rfl) ?_
  refine GL_y rfl rfl (Y_pick rfl rfl rfl rfl) ?_
  refine GL_nil ?_
  (repeat (first | (with_reducible refine R_seq ?_) | (with_reducible refine R_block_normal ?_)))
  (repeat (with_reducible refine G_seq ?_))
  refine G_cond_t rfl (by first | rfl | decide | (simp; done) | (simp; omega)) ?_
  (repeat (with_reducible refine G_seq ?_))
  refine G_region ?_
  refine GL_y rfl rfl (Y_build (v := .agg [wv 0, wv 0, wv 0, wv 0].toArray) (vs := []) rfl (fun w => run_build w 37 _ _ (by kernel_rfl))) ?_
  refine GL_y rfl rfl (Y_build (v := .agg [wv 0, wv 0, wv 0, wv 0].toArray) (vs := []) rfl (fun w => run_build w 37 _ _ (by kernel_rfl))) ?_
  refine GL_s rfl (S_all rfl rfl ag37 (by first | (rw [len_B, eb_len]) | (rw [len_B, fl_len, le32_len]) | (rw [len_B, le32_len]) | (rw [len_B]; assumption) | rfl) (by first | exact all_B _ | rfl) (by repeat (first | exact .head | apply Rem.tail)) (by first | (rw [len_B, eb_len]) | (rw [len_B, fl_len, le32_len]) | (rw [len_B, le32_len]) | (rw [len_B]; assumption) | rfl)) ?_
  refine GL_s rfl (S_all rfl rfl ag37 (by first | (rw [len_B, eb_len]) | (rw [len_B, fl_len, le32_len]) | (rw [len_B, le32_len]) | (rw [len_B]; assumption) | rfl) (by first | exact all_B _ | rfl) (by repeat (first | exact .head | apply Rem.tail)) (by first | (rw [len_B, eb_len]) | (rw [len_B, fl_len, le32_len]) | (rw [len_B, le32_len]) | (rw [len_B]; assumption) | rfl)) ?_
  refine GL_y rfl rfl (Y_assign rfl) ?_
  refine GL_nil ?_
  (repeat (first | (with_reducible refine R_seq ?_) | (with_reducible refine R_block_normal ?_)))
  (repeat (with_reducible refine G_seq ?_))
  refine G_ret ?_
  (repeat (first | (with_reducible refine R_then_ret ?_) | (with_reducible refine R_block_ret ?_)))
  refine R_ret (.ag rfl (by repeat (first | exact .head _ | apply List.Mem.tail)) (by exact ag37) (.ag rfl (by repeat (first | exact .head _ | apply List.Mem.tail)) (by exact ag37) (.tmp rfl .nil))) [] .nil ⟨rfl, rfl⟩
theorem two_bad {l m : List UInt8} {w : World} (hl : l.length = 32) (hm : m.length = 32) (h : ¬ (leN l < P ∧ leN m < P)) :
    FnAt Try.prog 23 [.agg (B l).toArray, .agg (B m).toArray] [] w (Ret fun v N => v = .tuple #[.agg (elV 0).toArray, .agg (elV 0).toArray, .int .i64 1] ∧ N = []) := by
  by_cases h1 : leN l < P
  · exact two_bad2 hl hm (decide_eq_true h1) (decide_eq_false fun h2 => h ⟨h1, h2⟩)
  · exact two_bad1 hl (decide_eq_false h1)
theorem add_v {x y v : Nat} {w : World} (hx : x < w256) (hy : y < w256) (hv : (x + y) % P = v) : FnAt Try.prog 24 [.agg (elV x).toArray, .agg (elV y).toArray] [] w (Ret fun r N => r = .agg (elV v).toArray ∧ N = []) := hv ▸ add_is hx hy
theorem mul_v {x y v : Nat} {w : World} (hx : x < w256) (hy : y < w256) (hv : x * y % P = v) : FnAt Try.prog 27 [.agg (elV x).toArray, .agg (elV y).toArray] [] w (Ret fun r N => r = .agg (elV v).toArray ∧ N = []) := hv ▸ mul_is hx hy
theorem F_lt (a : F) : a.val < w256 := Nat.lt_trans a.isLt P_lt
theorem leN_eb (a : F) : leN (eb a) = a.val := leN_le32 (F_lt a)
theorem eb_is (a : F) : decide (leN (eb a) < P) = true := by rw [leN_eb]; exact decide_eq_true a.isLt
theorem eb_of {l : List UInt8} (hl : l.length = 32) (h : leN l < P) : l = eb ⟨leN l, h⟩ := (le32_leN hl).symm
theorem eb_inj {a b : F} (h : eb a = eb b) : a = b := by
  apply F.ext'
  rw [← leN_eb, ← leN_eb, h]
theorem eb_zero : eb 0 = List.replicate 32 0 := le32_zero
theorem zlt : 0 < w256 := by decide
theorem z0 : (0 + 0) % P = 0 := by decide
theorem zm : 0 * 0 % P = 0 := by decide
theorem two_F {a b : F} {w : World} : FnAt Try.prog 23 [.agg (B (eb a)).toArray, .agg (B (eb b)).toArray] [] w (Ret fun v N => v = .tuple #[.agg (elV a.val).toArray, .agg (elV b.val).toArray, .int .i64 0] ∧ N = []) := by
  have h := two_ok (w := w) (eb_len a) (eb_len b) (eb_is a) (eb_is b)
  rwa [leN_eb, leN_eb] at h
theorem bytes_F {a : F} {w : World} : FnAt Try.prog 25 [.agg (elV a.val).toArray] [] w (Ret fun v N => v = .agg (B (eb a)).toArray ∧ N = []) := bytes_is
theorem eb_0 : eb 0 = le32 0 := by
  unfold eb; rw [zero_val]
theorem bytes_0 {w : World} : FnAt Try.prog 25 [.agg (elV 0).toArray] [] w (Ret fun v N => v = .agg (B (eb 0)).toArray ∧ N = []) := by
  rw [eb_0]; exact bytes_is
theorem sub_val (a b : F) : (a.val + (P - b.val) % P) % P = (a - b).val := by
  have h : a - b = a + -b := Fin.sub_eq_add_neg a b
  rw [h, add_val, neg_val]
set_option maxHeartbeats 4000000 in
theorem addE_F {a b : F} {w : World} : FnAt Try.prog 9 [.agg (B (eb a)).toArray, .agg (B (eb b)).toArray] [] w (Ret fun v N => v = .tuple #[.agg (B (eb (a + b))).toArray, .int .i64 0] ∧ N = []) := by
  refine FnAt.intro Try.func9 rfl Try.ntmps9 rfl _ rfl ?_
  (repeat (with_reducible refine G_seq ?_))
  refine G_region ?_
  refine GL_w rfl rfl (W_boxA rfl fun b2 => ?_)
  refine GL_w rfl rfl (W_boxA rfl fun b3 => ?_)
  refine GL_w rfl rfl (W_alloc zr22 fun b4 => ?_)
  refine GL_y rfl rfl (Y_assign rfl) ?_
  refine GL_nil ?_
  (repeat (first | (with_reducible refine R_seq ?_) | (with_reducible refine R_block_normal ?_)))
  (repeat (with_reducible refine G_seq ?_))
  refine G_region ?_
  refine GL_y rfl rfl (Y_loadA rfl (by repeat (first | exact .head _ | apply List.Mem.tail)) ag22 (by first | (rw [len_B, eb_len]) | (rw [len_B, fl_len, le32_len]) | (rw [len_B, le32_len]) | (rw [len_B]; assumption) | rfl)) ?_
  refine GL_y rfl rfl (Y_loadA rfl (by repeat (first | exact .head _ | apply List.Mem.tail)) ag22 (by first | (rw [len_B, eb_len]) | (rw [len_B, fl_len, le32_len]) | (rw [len_B, le32_len]) | (rw [len_B]; assumption) | rfl)) ?_
  refine GL_call rfl rfl rfl rfl Try.call23 .nil (fun w hw => two_F) ?_
  rintro _ _ ⟨rfl, rfl⟩
  refine GL_y rfl rfl (Y_move rfl) ?_
  refine GL_y rfl rfl (Y_extract rfl rfl) ?_
  refine GL_y rfl rfl (Y_extract rfl rfl) ?_
  refine GL_y rfl rfl (Y_extract rfl rfl) ?_
  refine GL_w rfl rfl (W_alloc zr37 fun b6 => ?_)
  refine GL_w rfl rfl (W_alloc zr37 fun b7 => ?_)
  refine GL_s rfl (S_all rfl rfl ag37 (by first | (rw [len_B, eb_len]) | (rw [len_B, fl_len, le32_len]) | (rw [len_B, le32_len]) | (rw [len_B]; assumption) | rfl) (by first | exact all_B _ | rfl) (by repeat (first | exact .head | apply Rem.tail)) (by first | (rw [len_B, eb_len]) | (rw [len_B, fl_len, le32_len]) | (rw [len_B, le32_len]) | (rw [len_B]; assumption) | rfl)) ?_
  refine GL_s rfl (S_all rfl rfl ag37 (by first | (rw [len_B, eb_len]) | (rw [len_B, fl_len, le32_len]) | (rw [len_B, le32_len]) | (rw [len_B]; assumption) | rfl) (by first | exact all_B _ | rfl) (by repeat (first | exact .head | apply Rem.tail)) (by first | (rw [len_B, eb_len]) | (rw [len_B, fl_len, le32_len]) | (rw [len_B, le32_len]) | (rw [len_B]; assumption) | rfl)) ?_
  refine GL_y rfl rfl (Y_assign rfl) ?_
  refine GL_nil ?_
  (repeat (first | (with_reducible refine R_seq ?_) | (with_reducible refine R_block_normal ?_)))
  (repeat (with_reducible refine G_seq ?_))
  refine G_region ?_
  refine GL_y rfl rfl (Y_loadA rfl (by repeat (first | exact .head _ | apply List.Mem.tail)) ag37 (by first | (rw [len_B, eb_len]) | (rw [len_B, fl_len, le32_len]) | (rw [len_B, le32_len]) | (rw [len_B]; assumption) | rfl)) ?_
  refine GL_y rfl rfl (Y_loadA rfl (by repeat (first | exact .head _ | apply List.Mem.tail)) ag37 (by first | (rw [len_B, eb_len]) | (rw [len_B, fl_len, le32_len]) | (rw [len_B, le32_len]) | (rw [len_B]; assumption) | rfl)) ?_
  refine GL_call rfl rfl rfl rfl Try.call24 .nil (fun w hw => add_v (F_lt a) (F_lt b) (add_val a b).symm) ?_
  rintro _ _ ⟨rfl, rfl⟩
  refine GL_call rfl rfl rfl rfl Try.call25 .nil (fun w hw => bytes_F) ?_
  rintro _ _ ⟨rfl, rfl⟩
  refine GL_y rfl rfl (Y_move rfl) ?_
  refine GL_s rfl (S_all rfl rfl ag22 (by first | (rw [len_B, eb_len]) | (rw [len_B, fl_len, le32_len]) | (rw [len_B, le32_len]) | (rw [len_B]; assumption) | rfl) (by first | exact all_B _ | rfl) (by repeat (first | exact .head | apply Rem.tail)) (by first | (rw [len_B, eb_len]) | (rw [len_B, fl_len, le32_len]) | (rw [len_B, le32_len]) | (rw [len_B]; assumption) | rfl)) ?_
  refine GL_y rfl rfl (Y_assign rfl) ?_
  refine GL_nil ?_
  (repeat (first | (with_reducible refine R_seq ?_) | (with_reducible refine R_block_normal ?_)))
  (repeat (with_reducible refine G_seq ?_))
  refine G_ret ?_
  (repeat (first | (with_reducible refine R_then_ret ?_) | (with_reducible refine R_block_ret ?_)))
  refine R_ret (.ag rfl (by repeat (first | exact .head _ | apply List.Mem.tail)) (by exact ag22) (.tmp rfl .nil)) [] .nil ⟨rfl, rfl⟩
set_option maxHeartbeats 4000000 in
theorem addE_bad {l m : List UInt8} {w : World} (hl : l.length = 32) (hm : m.length = 32) (h : ¬ (leN l < P ∧ leN m < P)) : FnAt Try.prog 9 [.agg (B l).toArray, .agg (B m).toArray] [] w (Ret fun v N => v = .tuple #[.agg (B (eb 0)).toArray, .int .i64 1] ∧ N = []) := by
  refine FnAt.intro Try.func9 rfl Try.ntmps9 rfl _ rfl ?_
  (repeat (with_reducible refine G_seq ?_))
  refine G_region ?_
  refine GL_w rfl rfl (W_boxA rfl fun b2 => ?_)
  refine GL_w rfl rfl (W_boxA rfl fun b3 => ?_)
  refine GL_w rfl rfl (W_alloc zr22 fun b4 => ?_)
  refine GL_y rfl rfl (Y_assign rfl) ?_
  refine GL_nil ?_
  (repeat (first | (with_reducible refine R_seq ?_) | (with_reducible refine R_block_normal ?_)))
  (repeat (with_reducible refine G_seq ?_))
  refine G_region ?_
  refine GL_y rfl rfl (Y_loadA rfl (by repeat (first | exact .head _ | apply List.Mem.tail)) ag22 (by first | (rw [len_B, eb_len]) | (rw [len_B, fl_len, le32_len]) | (rw [len_B, le32_len]) | (rw [len_B]; assumption) | rfl)) ?_
  refine GL_y rfl rfl (Y_loadA rfl (by repeat (first | exact .head _ | apply List.Mem.tail)) ag22 (by first | (rw [len_B, eb_len]) | (rw [len_B, fl_len, le32_len]) | (rw [len_B, le32_len]) | (rw [len_B]; assumption) | rfl)) ?_
  refine GL_call rfl rfl rfl rfl Try.call23 .nil (fun w hw => two_bad hl hm h) ?_
  rintro _ _ ⟨rfl, rfl⟩
  refine GL_y rfl rfl (Y_move rfl) ?_
  refine GL_y rfl rfl (Y_extract rfl rfl) ?_
  refine GL_y rfl rfl (Y_extract rfl rfl) ?_
  refine GL_y rfl rfl (Y_extract rfl rfl) ?_
  refine GL_w rfl rfl (W_alloc zr37 fun b6 => ?_)
  refine GL_w rfl rfl (W_alloc zr37 fun b7 => ?_)
  refine GL_s rfl (S_all rfl rfl ag37 (by first | (rw [len_B, eb_len]) | (rw [len_B, fl_len, le32_len]) | (rw [len_B, le32_len]) | (rw [len_B]; assumption) | rfl) (by first | exact all_B _ | rfl) (by repeat (first | exact .head | apply Rem.tail)) (by first | (rw [len_B, eb_len]) | (rw [len_B, fl_len, le32_len]) | (rw [len_B, le32_len]) | (rw [len_B]; assumption) | rfl)) ?_
  refine GL_s rfl (S_all rfl rfl ag37 (by first | (rw [len_B, eb_len]) | (rw [len_B, fl_len, le32_len]) | (rw [len_B, le32_len]) | (rw [len_B]; assumption) | rfl) (by first | exact all_B _ | rfl) (by repeat (first | exact .head | apply Rem.tail)) (by first | (rw [len_B, eb_len]) | (rw [len_B, fl_len, le32_len]) | (rw [len_B, le32_len]) | (rw [len_B]; assumption) | rfl)) ?_
  refine GL_y rfl rfl (Y_assign rfl) ?_
  refine GL_nil ?_
  (repeat (first | (with_reducible refine R_seq ?_) | (with_reducible refine R_block_normal ?_)))
  (repeat (with_reducible refine G_seq ?_))
  refine G_region ?_
  refine GL_y rfl rfl (Y_loadA rfl (by repeat (first | exact .head _ | apply List.Mem.tail)) ag37 (by first | (rw [len_B, eb_len]) | (rw [len_B, fl_len, le32_len]) | (rw [len_B, le32_len]) | (rw [len_B]; assumption) | rfl)) ?_
  refine GL_y rfl rfl (Y_loadA rfl (by repeat (first | exact .head _ | apply List.Mem.tail)) ag37 (by first | (rw [len_B, eb_len]) | (rw [len_B, fl_len, le32_len]) | (rw [len_B, le32_len]) | (rw [len_B]; assumption) | rfl)) ?_
  refine GL_call rfl rfl rfl rfl Try.call24 .nil (fun w hw => add_v zlt zlt z0) ?_
  rintro _ _ ⟨rfl, rfl⟩
  refine GL_call rfl rfl rfl rfl Try.call25 .nil (fun w hw => bytes_0) ?_
  rintro _ _ ⟨rfl, rfl⟩
  refine GL_y rfl rfl (Y_move rfl) ?_
  refine GL_s rfl (S_all rfl rfl ag22 (by first | (rw [len_B, eb_len]) | (rw [len_B, fl_len, le32_len]) | (rw [len_B, le32_len]) | (rw [len_B]; assumption) | rfl) (by first | exact all_B _ | rfl) (by repeat (first | exact .head | apply Rem.tail)) (by first | (rw [len_B, eb_len]) | (rw [len_B, fl_len, le32_len]) | (rw [len_B, le32_len]) | (rw [len_B]; assumption) | rfl)) ?_
  refine GL_y rfl rfl (Y_assign rfl) ?_
  refine GL_nil ?_
  (repeat (first | (with_reducible refine R_seq ?_) | (with_reducible refine R_block_normal ?_)))
  (repeat (with_reducible refine G_seq ?_))
  refine G_ret ?_
  (repeat (first | (with_reducible refine R_then_ret ?_) | (with_reducible refine R_block_ret ?_)))
  refine R_ret (.ag rfl (by repeat (first | exact .head _ | apply List.Mem.tail)) (by exact ag22) (.tmp rfl .nil)) [] .nil ⟨rfl, rfl⟩
set_option maxHeartbeats 4000000 in
theorem subE_F {a b : F} {w : World} : FnAt Try.prog 10 [.agg (B (eb a)).toArray, .agg (B (eb b)).toArray] [] w (Ret fun v N => v = .tuple #[.agg (B (eb (a - b))).toArray, .int .i64 0] ∧ N = []) := by
  refine FnAt.intro Try.func10 rfl Try.ntmps10 rfl _ rfl ?_
  (repeat (with_reducible refine G_seq ?_))
  refine G_region ?_
  refine GL_w rfl rfl (W_boxA rfl fun b2 => ?_)
  refine GL_w rfl rfl (W_boxA rfl fun b3 => ?_)
  refine GL_w rfl rfl (W_alloc zr22 fun b4 => ?_)
  refine GL_y rfl rfl (Y_assign rfl) ?_
  refine GL_nil ?_
  (repeat (first | (with_reducible refine R_seq ?_) | (with_reducible refine R_block_normal ?_)))
  (repeat (with_reducible refine G_seq ?_))
  refine G_region ?_
  refine GL_y rfl rfl (Y_loadA rfl (by repeat (first | exact .head _ | apply List.Mem.tail)) ag22 (by first | (rw [len_B, eb_len]) | (rw [len_B, fl_len, le32_len]) | (rw [len_B, le32_len]) | (rw [len_B]; assumption) | rfl)) ?_
  refine GL_y rfl rfl (Y_loadA rfl (by repeat (first | exact .head _ | apply List.Mem.tail)) ag22 (by first | (rw [len_B, eb_len]) | (rw [len_B, fl_len, le32_len]) | (rw [len_B, le32_len]) | (rw [len_B]; assumption) | rfl)) ?_
  refine GL_call rfl rfl rfl rfl Try.call23 .nil (fun w hw => two_F) ?_
  rintro _ _ ⟨rfl, rfl⟩
  refine GL_y rfl rfl (Y_move rfl) ?_
  refine GL_y rfl rfl (Y_extract rfl rfl) ?_
  refine GL_y rfl rfl (Y_extract rfl rfl) ?_
  refine GL_y rfl rfl (Y_extract rfl rfl) ?_
  refine GL_w rfl rfl (W_alloc zr37 fun b6 => ?_)
  refine GL_w rfl rfl (W_alloc zr37 fun b7 => ?_)
  refine GL_s rfl (S_all rfl rfl ag37 (by first | (rw [len_B, eb_len]) | (rw [len_B, fl_len, le32_len]) | (rw [len_B, le32_len]) | (rw [len_B]; assumption) | rfl) (by first | exact all_B _ | rfl) (by repeat (first | exact .head | apply Rem.tail)) (by first | (rw [len_B, eb_len]) | (rw [len_B, fl_len, le32_len]) | (rw [len_B, le32_len]) | (rw [len_B]; assumption) | rfl)) ?_
  refine GL_s rfl (S_all rfl rfl ag37 (by first | (rw [len_B, eb_len]) | (rw [len_B, fl_len, le32_len]) | (rw [len_B, le32_len]) | (rw [len_B]; assumption) | rfl) (by first | exact all_B _ | rfl) (by repeat (first | exact .head | apply Rem.tail)) (by first | (rw [len_B, eb_len]) | (rw [len_B, fl_len, le32_len]) | (rw [len_B, le32_len]) | (rw [len_B]; assumption) | rfl)) ?_
  refine GL_y rfl rfl (Y_assign rfl) ?_
  refine GL_nil ?_
  (repeat (first | (with_reducible refine R_seq ?_) | (with_reducible refine R_block_normal ?_)))
  (repeat (with_reducible refine G_seq ?_))
  refine G_draw [6] 8 rfl (by kernel_rfl) ?_
  refine GA_l 0 rfl (by kernel_rfl) (by kernel_rfl) (by kernel_rfl) (fun _ _ _ h => h) rfl rfl rfl rfl (Y_loadA rfl (by repeat (first | exact .head _ | apply List.Mem.tail)) ag37 (by first | (rw [len_B, eb_len]) | (rw [len_B, fl_len, le32_len]) | (rw [len_B, le32_len]) | (rw [len_B]; assumption) | rfl)) ?_
  refine GA_l 1 rfl (by kernel_rfl) (by kernel_rfl) (by kernel_rfl) (fun _ _ _ h => h) rfl rfl rfl rfl (Y_loadA rfl (by repeat (first | exact .head _ | apply List.Mem.tail)) ag37 (by first | (rw [len_B, eb_len]) | (rw [len_B, fl_len, le32_len]) | (rw [len_B, le32_len]) | (rw [len_B]; assumption) | rfl)) ?_
  refine GA_y 5 rfl (by kernel_rfl) (by kernel_rfl) (by kernel_rfl) (fun _ _ _ h => h) rfl rfl rfl (Y_move rfl) ?_
  refine GA_one 2 (by kernel_rfl) ?_
  refine GO_call rfl rfl rfl rfl rfl rfl Try.call26 (fun w hw => neg_is b.isLt) ?_
  rintro _ _ ⟨rfl, rfl⟩
  refine GA_one 3 (by kernel_rfl) ?_
  refine GO_call rfl rfl rfl rfl rfl rfl Try.call24 (fun w hw => add_v (F_lt a) (Nat.lt_trans (Nat.mod_lt _ P_pos) P_lt) (sub_val a b)) ?_
  rintro _ _ ⟨rfl, rfl⟩
  refine GA_one 4 (by kernel_rfl) ?_
  refine GO_call rfl rfl rfl rfl rfl rfl Try.call25 (fun w hw => bytes_F) ?_
  rintro _ _ ⟨rfl, rfl⟩
  refine GA_one 6 (by kernel_rfl) ?_
  refine GO_s rfl rfl rfl (S_all rfl rfl ag22 (by first | (rw [len_B, eb_len]) | (rw [len_B, fl_len, le32_len]) | (rw [len_B, le32_len]) | (rw [len_B]; assumption) | rfl) (by first | exact all_B _ | rfl) (by repeat (first | exact .head | apply Rem.tail)) (by first | (rw [len_B, eb_len]) | (rw [len_B, fl_len, le32_len]) | (rw [len_B, le32_len]) | (rw [len_B]; assumption) | rfl)) ?_
  refine GA_y 7 rfl (by kernel_rfl) (by kernel_rfl) (by kernel_rfl) (fun _ _ _ h => h) rfl rfl rfl (Y_assign rfl) ?_
  refine GA_done (by kernel_rfl) ?_
  (repeat (first | (with_reducible refine R_seq ?_) | (with_reducible refine R_block_normal ?_)))
  (repeat (with_reducible refine G_seq ?_))
  refine G_ret ?_
  (repeat (first | (with_reducible refine R_then_ret ?_) | (with_reducible refine R_block_ret ?_)))
  refine R_ret (.ag rfl (by repeat (first | exact .head _ | apply List.Mem.tail)) (by exact ag22) (.tmp rfl .nil)) [] .nil ⟨rfl, rfl⟩
set_option maxHeartbeats 4000000 in
theorem subE_bad {l m : List UInt8} {w : World} (hl : l.length = 32) (hm : m.length = 32) (h : ¬ (leN l < P ∧ leN m < P)) : FnAt Try.prog 10 [.agg (B l).toArray, .agg (B m).toArray] [] w (Ret fun v N => v = .tuple #[.agg (B (eb 0)).toArray, .int .i64 1] ∧ N = []) := by
  refine FnAt.intro Try.func10 rfl Try.ntmps10 rfl _ rfl ?_
  (repeat (with_reducible refine G_seq ?_))
  refine G_region ?_
  refine GL_w rfl rfl (W_boxA rfl fun b2 => ?_)
  refine GL_w rfl rfl (W_boxA rfl fun b3 => ?_)
  refine GL_w rfl rfl (W_alloc zr22 fun b4 => ?_)
  refine GL_y rfl rfl (Y_assign rfl) ?_
  refine GL_nil ?_
  (repeat (first | (with_reducible refine R_seq ?_) | (with_reducible refine R_block_normal ?_)))
  (repeat (with_reducible refine G_seq ?_))
  refine G_region ?_
  refine GL_y rfl rfl (Y_loadA rfl (by repeat (first | exact .head _ | apply List.Mem.tail)) ag22 (by first | (rw [len_B, eb_len]) | (rw [len_B, fl_len, le32_len]) | (rw [len_B, le32_len]) | (rw [len_B]; assumption) | rfl)) ?_
  refine GL_y rfl rfl (Y_loadA rfl (by repeat (first | exact .head _ | apply List.Mem.tail)) ag22 (by first | (rw [len_B, eb_len]) | (rw [len_B, fl_len, le32_len]) | (rw [len_B, le32_len]) | (rw [len_B]; assumption) | rfl)) ?_
  refine GL_call rfl rfl rfl rfl Try.call23 .nil (fun w hw => two_bad hl hm h) ?_
  rintro _ _ ⟨rfl, rfl⟩
  refine GL_y rfl rfl (Y_move rfl) ?_
  refine GL_y rfl rfl (Y_extract rfl rfl) ?_
  refine GL_y rfl rfl (Y_extract rfl rfl) ?_
  refine GL_y rfl rfl (Y_extract rfl rfl) ?_
  refine GL_w rfl rfl (W_alloc zr37 fun b6 => ?_)
  refine GL_w rfl rfl (W_alloc zr37 fun b7 => ?_)
  refine GL_s rfl (S_all rfl rfl ag37 (by first | (rw [len_B, eb_len]) | (rw [len_B, fl_len, le32_len]) | (rw [len_B, le32_len]) | (rw [len_B]; assumption) | rfl) (by first | exact all_B _ | rfl) (by repeat (first | exact .head | apply Rem.tail)) (by first | (rw [len_B, eb_len]) | (rw [len_B, fl_len, le32_len]) | (rw [len_B, le32_len]) | (rw [len_B]; assumption) | rfl)) ?_
  refine GL_s rfl (S_all rfl rfl ag37 (by first | (rw [len_B, eb_len]) | (rw [len_B, fl_len, le32_len]) | (rw [len_B, le32_len]) | (rw [len_B]; assumption) | rfl) (by first | exact all_B _ | rfl) (by repeat (first | exact .head | apply Rem.tail)) (by first | (rw [len_B, eb_len]) | (rw [len_B, fl_len, le32_len]) | (rw [len_B, le32_len]) | (rw [len_B]; assumption) | rfl)) ?_
  refine GL_y rfl rfl (Y_assign rfl) ?_
  refine GL_nil ?_
  (repeat (first | (with_reducible refine R_seq ?_) | (with_reducible refine R_block_normal ?_)))
  (repeat (with_reducible refine G_seq ?_))
  refine G_draw [6] 8 rfl (by kernel_rfl) ?_
  refine GA_l 0 rfl (by kernel_rfl) (by kernel_rfl) (by kernel_rfl) (fun _ _ _ h => h) rfl rfl rfl rfl (Y_loadA rfl (by repeat (first | exact .head _ | apply List.Mem.tail)) ag37 (by first | (rw [len_B, eb_len]) | (rw [len_B, fl_len, le32_len]) | (rw [len_B, le32_len]) | (rw [len_B]; assumption) | rfl)) ?_
  refine GA_l 1 rfl (by kernel_rfl) (by kernel_rfl) (by kernel_rfl) (fun _ _ _ h => h) rfl rfl rfl rfl (Y_loadA rfl (by repeat (first | exact .head _ | apply List.Mem.tail)) ag37 (by first | (rw [len_B, eb_len]) | (rw [len_B, fl_len, le32_len]) | (rw [len_B, le32_len]) | (rw [len_B]; assumption) | rfl)) ?_
  refine GA_y 5 rfl (by kernel_rfl) (by kernel_rfl) (by kernel_rfl) (fun _ _ _ h => h) rfl rfl rfl (Y_move rfl) ?_
  refine GA_one 2 (by kernel_rfl) ?_
  refine GO_call rfl rfl rfl rfl rfl rfl Try.call26 (fun w hw => neg_is P_pos) ?_
  rintro _ _ ⟨rfl, rfl⟩
  refine GA_one 3 (by kernel_rfl) ?_
  refine GO_call rfl rfl rfl rfl rfl rfl Try.call24 (fun w hw => add_v zlt (Nat.lt_trans (Nat.mod_lt _ P_pos) P_lt) (show (0 + (P - 0) % P) % P = 0 by decide)) ?_
  rintro _ _ ⟨rfl, rfl⟩
  refine GA_one 4 (by kernel_rfl) ?_
  refine GO_call rfl rfl rfl rfl rfl rfl Try.call25 (fun w hw => bytes_0) ?_
  rintro _ _ ⟨rfl, rfl⟩
  refine GA_one 6 (by kernel_rfl) ?_
  refine GO_s rfl rfl rfl (S_all rfl rfl ag22 (by first | (rw [len_B, eb_len]) | (rw [len_B, fl_len, le32_len]) | (rw [len_B, le32_len]) | (rw [len_B]; assumption) | rfl) (by first | exact all_B _ | rfl) (by repeat (first | exact .head | apply Rem.tail)) (by first | (rw [len_B, eb_len]) | (rw [len_B, fl_len, le32_len]) | (rw [len_B, le32_len]) | (rw [len_B]; assumption) | rfl)) ?_
  refine GA_y 7 rfl (by kernel_rfl) (by kernel_rfl) (by kernel_rfl) (fun _ _ _ h => h) rfl rfl rfl (Y_assign rfl) ?_
  refine GA_done (by kernel_rfl) ?_
  (repeat (first | (with_reducible refine R_seq ?_) | (with_reducible refine R_block_normal ?_)))
  (repeat (with_reducible refine G_seq ?_))
  refine G_ret ?_
  (repeat (first | (with_reducible refine R_then_ret ?_) | (with_reducible refine R_block_ret ?_)))
  refine R_ret (.ag rfl (by repeat (first | exact .head _ | apply List.Mem.tail)) (by exact ag22) (.tmp rfl .nil)) [] .nil ⟨rfl, rfl⟩
set_option maxHeartbeats 4000000 in
theorem mulE_F {a b : F} {w : World} : FnAt Try.prog 11 [.agg (B (eb a)).toArray, .agg (B (eb b)).toArray] [] w (Ret fun v N => v = .tuple #[.agg (B (eb (a * b))).toArray, .int .i64 0] ∧ N = []) := by
  refine FnAt.intro Try.func11 rfl Try.ntmps11 rfl _ rfl ?_
  (repeat (with_reducible refine G_seq ?_))
  refine G_region ?_
  refine GL_w rfl rfl (W_boxA rfl fun b2 => ?_)
  refine GL_w rfl rfl (W_boxA rfl fun b3 => ?_)
  refine GL_w rfl rfl (W_alloc zr22 fun b4 => ?_)
  refine GL_y rfl rfl (Y_assign rfl) ?_
  refine GL_nil ?_
  (repeat (first | (with_reducible refine R_seq ?_) | (with_reducible refine R_block_normal ?_)))
  (repeat (with_reducible refine G_seq ?_))
  refine G_region ?_
  refine GL_y rfl rfl (Y_loadA rfl (by repeat (first | exact .head _ | apply List.Mem.tail)) ag22 (by first | (rw [len_B, eb_len]) | (rw [len_B, fl_len, le32_len]) | (rw [len_B, le32_len]) | (rw [len_B]; assumption) | rfl)) ?_
  refine GL_y rfl rfl (Y_loadA rfl (by repeat (first | exact .head _ | apply List.Mem.tail)) ag22 (by first | (rw [len_B, eb_len]) | (rw [len_B, fl_len, le32_len]) | (rw [len_B, le32_len]) | (rw [len_B]; assumption) | rfl)) ?_
  refine GL_call rfl rfl rfl rfl Try.call23 .nil (fun w hw => two_F) ?_
  rintro _ _ ⟨rfl, rfl⟩
  refine GL_y rfl rfl (Y_move rfl) ?_
  refine GL_y rfl rfl (Y_extract rfl rfl) ?_
  refine GL_y rfl rfl (Y_extract rfl rfl) ?_
  refine GL_y rfl rfl (Y_extract rfl rfl) ?_
  refine GL_w rfl rfl (W_alloc zr37 fun b6 => ?_)
  refine GL_w rfl rfl (W_alloc zr37 fun b7 => ?_)
  refine GL_s rfl (S_all rfl rfl ag37 (by first | (rw [len_B, eb_len]) | (rw [len_B, fl_len, le32_len]) | (rw [len_B, le32_len]) | (rw [len_B]; assumption) | rfl) (by first | exact all_B _ | rfl) (by repeat (first | exact .head | apply Rem.tail)) (by first | (rw [len_B, eb_len]) | (rw [len_B, fl_len, le32_len]) | (rw [len_B, le32_len]) | (rw [len_B]; assumption) | rfl)) ?_
  refine GL_s rfl (S_all rfl rfl ag37 (by first | (rw [len_B, eb_len]) | (rw [len_B, fl_len, le32_len]) | (rw [len_B, le32_len]) | (rw [len_B]; assumption) | rfl) (by first | exact all_B _ | rfl) (by repeat (first | exact .head | apply Rem.tail)) (by first | (rw [len_B, eb_len]) | (rw [len_B, fl_len, le32_len]) | (rw [len_B, le32_len]) | (rw [len_B]; assumption) | rfl)) ?_
  refine GL_y rfl rfl (Y_assign rfl) ?_
  refine GL_nil ?_
  (repeat (first | (with_reducible refine R_seq ?_) | (with_reducible refine R_block_normal ?_)))
  (repeat (with_reducible refine G_seq ?_))
  refine G_region ?_
  refine GL_y rfl rfl (Y_loadA rfl (by repeat (first | exact .head _ | apply List.Mem.tail)) ag37 (by first | (rw [len_B, eb_len]) | (rw [len_B, fl_len, le32_len]) | (rw [len_B, le32_len]) | (rw [len_B]; assumption) | rfl)) ?_
  refine GL_y rfl rfl (Y_loadA rfl (by repeat (first | exact .head _ | apply List.Mem.tail)) ag37 (by first | (rw [len_B, eb_len]) | (rw [len_B, fl_len, le32_len]) | (rw [len_B, le32_len]) | (rw [len_B]; assumption) | rfl)) ?_
  refine GL_call rfl rfl rfl rfl Try.call27 .nil (fun w hw => mul_v (F_lt a) (F_lt b) (mul_val a b).symm) ?_
  rintro _ _ ⟨rfl, rfl⟩
  refine GL_call rfl rfl rfl rfl Try.call25 .nil (fun w hw => bytes_F) ?_
  rintro _ _ ⟨rfl, rfl⟩
  refine GL_y rfl rfl (Y_move rfl) ?_
  refine GL_s rfl (S_all rfl rfl ag22 (by first | (rw [len_B, eb_len]) | (rw [len_B, fl_len, le32_len]) | (rw [len_B, le32_len]) | (rw [len_B]; assumption) | rfl) (by first | exact all_B _ | rfl) (by repeat (first | exact .head | apply Rem.tail)) (by first | (rw [len_B, eb_len]) | (rw [len_B, fl_len, le32_len]) | (rw [len_B, le32_len]) | (rw [len_B]; assumption) | rfl)) ?_
  refine GL_y rfl rfl (Y_assign rfl) ?_
  refine GL_nil ?_
  (repeat (first | (with_reducible refine R_seq ?_) | (with_reducible refine R_block_normal ?_)))
  (repeat (with_reducible refine G_seq ?_))
  refine G_ret ?_
  (repeat (first | (with_reducible refine R_then_ret ?_) | (with_reducible refine R_block_ret ?_)))
  refine R_ret (.ag rfl (by repeat (first | exact .head _ | apply List.Mem.tail)) (by exact ag22) (.tmp rfl .nil)) [] .nil ⟨rfl, rfl⟩
set_option maxHeartbeats 4000000 in
theorem mulE_bad {l m : List UInt8} {w : World} (hl : l.length = 32) (hm : m.length = 32) (h : ¬ (leN l < P ∧ leN m < P)) : FnAt Try.prog 11 [.agg (B l).toArray, .agg (B m).toArray] [] w (Ret fun v N => v = .tuple #[.agg (B (eb 0)).toArray, .int .i64 1] ∧ N = []) := by
  refine FnAt.intro Try.func11 rfl Try.ntmps11 rfl _ rfl ?_
  (repeat (with_reducible refine G_seq ?_))
  refine G_region ?_
  refine GL_w rfl rfl (W_boxA rfl fun b2 => ?_)
  refine GL_w rfl rfl (W_boxA rfl fun b3 => ?_)
  refine GL_w rfl rfl (W_alloc zr22 fun b4 => ?_)
  refine GL_y rfl rfl (Y_assign rfl) ?_
  refine GL_nil ?_
  (repeat (first | (with_reducible refine R_seq ?_) | (with_reducible refine R_block_normal ?_)))
  (repeat (with_reducible refine G_seq ?_))
  refine G_region ?_
  refine GL_y rfl rfl (Y_loadA rfl (by repeat (first | exact .head _ | apply List.Mem.tail)) ag22 (by first | (rw [len_B, eb_len]) | (rw [len_B, fl_len, le32_len]) | (rw [len_B, le32_len]) | (rw [len_B]; assumption) | rfl)) ?_
  refine GL_y rfl rfl (Y_loadA rfl (by repeat (first | exact .head _ | apply List.Mem.tail)) ag22 (by first | (rw [len_B, eb_len]) | (rw [len_B, fl_len, le32_len]) | (rw [len_B, le32_len]) | (rw [len_B]; assumption) | rfl)) ?_
  refine GL_call rfl rfl rfl rfl Try.call23 .nil (fun w hw => two_bad hl hm h) ?_
  rintro _ _ ⟨rfl, rfl⟩
  refine GL_y rfl rfl (Y_move rfl) ?_
  refine GL_y rfl rfl (Y_extract rfl rfl) ?_
  refine GL_y rfl rfl (Y_extract rfl rfl) ?_
  refine GL_y rfl rfl (Y_extract rfl rfl) ?_
  refine GL_w rfl rfl (W_alloc zr37 fun b6 => ?_)
  refine GL_w rfl rfl (W_alloc zr37 fun b7 => ?_)
  refine GL_s rfl (S_all rfl rfl ag37 (by first | (rw [len_B, eb_len]) | (rw [len_B, fl_len, le32_len]) | (rw [len_B, le32_len]) | (rw [len_B]; assumption) | rfl) (by first | exact all_B _ | rfl) (by repeat (first | exact .head | apply Rem.tail)) (by first | (rw [len_B, eb_len]) | (rw [len_B, fl_len, le32_len]) | (rw [len_B, le32_len]) | (rw [len_B]; assumption) | rfl)) ?_
  refine GL_s rfl (S_all rfl rfl ag37 (by first | (rw [len_B, eb_len]) | (rw [len_B, fl_len, le32_len]) | (rw [len_B, le32_len]) | (rw [len_B]; assumption) | rfl) (by first | exact all_B _ | rfl) (by repeat (first | exact .head | apply Rem.tail)) (by first | (rw [len_B, eb_len]) | (rw [len_B, fl_len, le32_len]) | (rw [len_B, le32_len]) | (rw [len_B]; assumption) | rfl)) ?_
  refine GL_y rfl rfl (Y_assign rfl) ?_
  refine GL_nil ?_
  (repeat (first | (with_reducible refine R_seq ?_) | (with_reducible refine R_block_normal ?_)))
  (repeat (with_reducible refine G_seq ?_))
  refine G_region ?_
  refine GL_y rfl rfl (Y_loadA rfl (by repeat (first | exact .head _ | apply List.Mem.tail)) ag37 (by first | (rw [len_B, eb_len]) | (rw [len_B, fl_len, le32_len]) | (rw [len_B, le32_len]) | (rw [len_B]; assumption) | rfl)) ?_
  refine GL_y rfl rfl (Y_loadA rfl (by repeat (first | exact .head _ | apply List.Mem.tail)) ag37 (by first | (rw [len_B, eb_len]) | (rw [len_B, fl_len, le32_len]) | (rw [len_B, le32_len]) | (rw [len_B]; assumption) | rfl)) ?_
  refine GL_call rfl rfl rfl rfl Try.call27 .nil (fun w hw => mul_v zlt zlt zm) ?_
  rintro _ _ ⟨rfl, rfl⟩
  refine GL_call rfl rfl rfl rfl Try.call25 .nil (fun w hw => bytes_0) ?_
  rintro _ _ ⟨rfl, rfl⟩
  refine GL_y rfl rfl (Y_move rfl) ?_
  refine GL_s rfl (S_all rfl rfl ag22 (by first | (rw [len_B, eb_len]) | (rw [len_B, fl_len, le32_len]) | (rw [len_B, le32_len]) | (rw [len_B]; assumption) | rfl) (by first | exact all_B _ | rfl) (by repeat (first | exact .head | apply Rem.tail)) (by first | (rw [len_B, eb_len]) | (rw [len_B, fl_len, le32_len]) | (rw [len_B, le32_len]) | (rw [len_B]; assumption) | rfl)) ?_
  refine GL_y rfl rfl (Y_assign rfl) ?_
  refine GL_nil ?_
  (repeat (first | (with_reducible refine R_seq ?_) | (with_reducible refine R_block_normal ?_)))
  (repeat (with_reducible refine G_seq ?_))
  refine G_ret ?_
  (repeat (first | (with_reducible refine R_then_ret ?_) | (with_reducible refine R_block_ret ?_)))
  refine R_ret (.ag rfl (by repeat (first | exact .head _ | apply List.Mem.tail)) (by exact ag22) (.tmp rfl .nil)) [] .nil ⟨rfl, rfl⟩
end Go.Proofs.Ytefphcpaakhfbaa

/-
  Root.
-/
import Derived.Test.YtefphcpaakhfbaaF8
namespace Go.Proofs.Ytefphcpaakhfbaa
open Go Go.Sl Go.RowKit Go.Fp


def evenF (r : F) : F := if r.val % 2 = 1 then -r else r
def rootS (a r0 i : F) : Option F := if r0 * r0 = a then some (evenF r0) else if r0 * i * (r0 * i) = a then some (evenF (r0 * i)) else none
theorem rootF_S (a : F) : rootF a = rootS a (fp a eR) iF := by
  unfold rootF rootR rootS evenF
  generalize fp a eR = r0
  generalize iF = i
  by_cases h : r0 * r0 = a
  · simp only [if_pos h]
  · simp only [if_neg h]
def rv (o : Option F) : Value := match o with
  | some r => .tuple #[.agg (B (eb r)).toArray, .bool true, .int .i64 0]
  | none => .tuple #[.agg (B (eb 0)).toArray, .bool false, .int .i64 0]
theorem bne_t {x y : Nat} (h : (!decide (x = y)) = true) : ¬ x = y := by simpa using h
theorem bne_f {x y : Nat} (h : (!decide (x = y)) = false) : x = y := by simpa using h
theorem rs_eq {a r0 i : F} (h : (!decide ((r0 * r0).val = a.val)) = false) : rootS a r0 i = some (evenF r0) := by
  unfold rootS
  rw [if_pos (F.ext' (bne_f h))]
theorem rs_ne {a r0 i : F} (h : (!decide ((r0 * r0).val = a.val)) = true) (h2 : (!decide ((r0 * i * (r0 * i)).val = a.val)) = false) : rootS a r0 i = some (evenF (r0 * i)) := by
  unfold rootS
  rw [if_neg (fun e => bne_t h (by rw [e])), if_pos (F.ext' (bne_f h2))]
theorem rs_no {a r0 i : F} (h : (!decide ((r0 * r0).val = a.val)) = true) (h2 : (!decide ((r0 * i * (r0 * i)).val = a.val)) = true) : rootS a r0 i = none := by
  unfold rootS
  rw [if_neg (fun e => bne_t h (by rw [e])), if_neg (fun e => bne_t h2 (by rw [e]))]
theorem odd_wd (x : Nat) : wd x 0 % 2 ^ 1 = x % 2 := by
  simp only [wd, w64]; omega
theorem ev_t {r : F} (h : wd r.val 0 % 2 ^ 1 = 1) : evenF r = -r := by
  rw [odd_wd] at h
  unfold evenF; rw [if_pos h]
theorem ev_f {r : F} (h : ¬ wd r.val 0 % 2 ^ 1 = 1) : evenF r = r := by
  rw [odd_wd] at h
  unfold evenF; rw [if_neg h]
theorem rv_some {a r0 i q r : F} (h : rootS a r0 i = some (evenF q)) (h2 : evenF q = r) : Value.tuple #[.agg (B (eb r)).toArray, .bool true, .int .i64 0] = rv (rootS a r0 i) := by
  rw [h, h2]; rfl
theorem rv_none {a r0 i : F} (h : rootS a r0 i = none) : Value.tuple #[.agg (B (List.replicate 32 0)).toArray, .bool false, .int .i64 0] = rv (rootS a r0 i) := by
  rw [h, ← eb_zero]; rfl
theorem negE {r : F} {w : World} : FnAt Try.prog 26 [.agg (elV r.val).toArray] [] w (Ret fun v N => v = .agg (elV (-r).val).toArray ∧ N = []) := by
  have h := neg_is (w := w) r.isLt
  rwa [← neg_val] at h
set_option maxHeartbeats 4000000 in
theorem root_w {a r0 i : F} {w : World} (h0 : ∀ w, FnAt Try.prog 39 [.agg (elV a.val).toArray, .int .i64 252, .func (.func 41) #[] #[]] [] w (Ret fun r N => r = .agg (elV r0.val).toArray ∧ N = []))
    (hi : ∀ w, FnAt Try.prog 39 [.agg [wv 2, wv 0, wv 0, wv 0].toArray, .int .i64 253, .func (.func 42) #[] #[]] [] w (Ret fun r N => r = .agg (elV i.val).toArray ∧ N = [])) :
    FnAt Try.prog 20 [.agg (B (eb a)).toArray] [] w (Ret fun v N => v = rv (rootS a r0 i) ∧ N = []) := by
  refine FnAt.intro Try.func20 rfl Try.ntmps20 rfl _ rfl ?_
  (repeat (with_reducible refine G_seq ?_))
  refine G_region ?_
  refine GL_w rfl rfl (W_boxA rfl fun b1 => ?_)
  refine GL_w rfl rfl (W_alloc zr22 fun b2 => ?_)
  refine GL_y rfl rfl (Y_assign rfl) ?_
  refine GL_y rfl rfl (Y_assign rfl) ?_
  refine GL_nil ?_
  (repeat (first | (with_reducible refine R_seq ?_) | (with_reducible refine R_block_normal ?_)))
  (repeat (with_reducible refine G_seq ?_))
  refine G_region ?_
  refine GL_y rfl rfl (Y_loadA rfl (by repeat (first | exact .head _ | apply List.Mem.tail)) ag22 (by first | (rw [len_B, eb_len]) | (rw [len_B, fl_len, le32_len]) | (rw [len_B, le32_len]) | (rw [len_B]; assumption) | rfl)) ?_
  refine GL_call rfl rfl rfl rfl Try.call12 .nil (fun w hw => is_F) ?_
  rintro _ _ ⟨rfl, rfl⟩
  refine GL_y rfl rfl (Y_not rfl) ?_
  refine GL_nil ?_
  (repeat (first | (with_reducible refine R_seq ?_) | (with_reducible refine R_block_normal ?_)))
  (repeat (with_reducible refine G_seq ?_))
  refine G_cond_f rfl (by first | rfl | decide | (simp; done) | (simp; omega)) ?_
  (repeat (with_reducible refine G_seq ?_))
  refine G_skip ?_
  (repeat (first | (with_reducible refine R_seq ?_) | (with_reducible refine R_block_normal ?_)))
  (repeat (with_reducible refine G_seq ?_))
  refine G_region ?_
  refine GL_y rfl rfl (Y_loadA rfl (by repeat (first | exact .head _ | apply List.Mem.tail)) ag22 (by first | (rw [len_B, eb_len]) | (rw [len_B, fl_len, le32_len]) | (rw [len_B, le32_len]) | (rw [len_B]; assumption) | rfl)) ?_
  refine GL_call rfl rfl rfl rfl Try.call28 .nil (fun w hw => read_F) ?_
  rintro _ _ ⟨rfl, rfl⟩
  refine GL_w rfl rfl (W_alloc zr37 fun b5 => ?_)
  refine GL_s rfl (S_all rfl rfl ag37 (by first | (rw [len_B, eb_len]) | (rw [len_B, fl_len, le32_len]) | (rw [len_B, le32_len]) | (rw [len_B]; assumption) | rfl) (by first | exact all_B _ | rfl) (by repeat (first | exact .head | apply Rem.tail)) (by first | (rw [len_B, eb_len]) | (rw [len_B, fl_len, le32_len]) | (rw [len_B, le32_len]) | (rw [len_B]; assumption) | rfl)) ?_
  refine GL_nil ?_
  (repeat (first | (with_reducible refine R_seq ?_) | (with_reducible refine R_block_normal ?_)))
  (repeat (with_reducible refine G_seq ?_))
  refine G_region ?_
  refine GL_y rfl rfl (Y_loadA rfl (by repeat (first | exact .head _ | apply List.Mem.tail)) ag37 (by first | (rw [len_B, eb_len]) | (rw [len_B, fl_len, le32_len]) | (rw [len_B, le32_len]) | (rw [len_B]; assumption) | rfl)) ?_
  refine GL_call rfl rfl rfl rfl Try.call39 .nil (fun w hw => h0 w) ?_
  rintro _ _ ⟨rfl, rfl⟩
  refine GL_w rfl rfl (W_alloc zr37 fun b6 => ?_)
  refine GL_s rfl (S_all rfl rfl ag37 (by first | (rw [len_B, eb_len]) | (rw [len_B, fl_len, le32_len]) | (rw [len_B, le32_len]) | (rw [len_B]; assumption) | rfl) (by first | exact all_B _ | rfl) (by repeat (first | exact .head | apply Rem.tail)) (by first | (rw [len_B, eb_len]) | (rw [len_B, fl_len, le32_len]) | (rw [len_B, le32_len]) | (rw [len_B]; assumption) | rfl)) ?_
  refine GL_nil ?_
  (repeat (first | (with_reducible refine R_seq ?_) | (with_reducible refine R_block_normal ?_)))
  (repeat (with_reducible refine G_seq ?_))
  refine G_draw [] 5 rfl (by kernel_rfl) ?_
  refine GA_l 0 rfl (by kernel_rfl) (by kernel_rfl) (by kernel_rfl) (fun _ _ _ h => h) rfl rfl rfl rfl (Y_loadA rfl (by repeat (first | exact .head _ | apply List.Mem.tail)) ag37 (by first | (rw [len_B, eb_len]) | (rw [len_B, fl_len, le32_len]) | (rw [len_B, le32_len]) | (rw [len_B]; assumption) | rfl)) ?_
  refine GA_l 1 rfl (by kernel_rfl) (by kernel_rfl) (by kernel_rfl) (fun _ _ _ h => h) rfl rfl rfl rfl (Y_loadA rfl (by repeat (first | exact .head _ | apply List.Mem.tail)) ag37 (by first | (rw [len_B, eb_len]) | (rw [len_B, fl_len, le32_len]) | (rw [len_B, le32_len]) | (rw [len_B]; assumption) | rfl)) ?_
  refine GA_l 3 rfl (by kernel_rfl) (by kernel_rfl) (by kernel_rfl) (fun _ _ _ h => h) rfl rfl rfl rfl (Y_loadA rfl (by repeat (first | exact .head _ | apply List.Mem.tail)) ag37 (by first | (rw [len_B, eb_len]) | (rw [len_B, fl_len, le32_len]) | (rw [len_B, le32_len]) | (rw [len_B]; assumption) | rfl)) ?_
  refine GA_one 2 (by kernel_rfl) ?_
  refine GO_call rfl rfl rfl rfl rfl rfl Try.call27 (fun w hw => mul_v (F_lt _) (F_lt _) (mul_val r0 r0).symm) ?_
  rintro _ _ ⟨rfl, rfl⟩
  refine GA_y 4 rfl (by kernel_rfl) (by kernel_rfl) (by kernel_rfl) (fun _ _ _ h => h) rfl rfl rfl (Y_neqEl eg37 ti37 rfl rfl (F_lt _) (F_lt _)) ?_
  refine GA_done (by kernel_rfl) ?_
  (repeat (first | (with_reducible refine R_seq ?_) | (with_reducible refine R_block_normal ?_)))
  (repeat (with_reducible refine G_seq ?_))
  refine G_cond rfl (fun h19 => ?_) (fun h19 => ?_)
  · -- yes
    (repeat (with_reducible refine G_seq ?_))
    refine G_draw [4] 5 rfl (by kernel_rfl) ?_
    refine GA_l 0 rfl (by kernel_rfl) (by kernel_rfl) (by kernel_rfl) (fun _ _ _ h => h) rfl rfl rfl rfl (Y_loadA rfl (by repeat (first | exact .head _ | apply List.Mem.tail)) ag37 (by first | (rw [len_B, eb_len]) | (rw [len_B, fl_len, le32_len]) | (rw [len_B, le32_len]) | (rw [len_B]; assumption) | rfl)) ?_
    refine GA_y 1 rfl (by kernel_rfl) (by kernel_rfl) (by kernel_rfl) (fun _ _ _ h => h) rfl rfl rfl (Y_build (v := .agg [wv 2, wv 0, wv 0, wv 0].toArray) (vs := [(0, wv 2)]) rfl (fun w => run_build w 37 _ _ (by kernel_rfl))) ?_
    refine GA_one 2 (by kernel_rfl) ?_
    refine GO_call rfl rfl rfl rfl rfl rfl Try.call39 (fun w hw => hi w) ?_
    rintro _ _ ⟨rfl, rfl⟩
    refine GA_one 3 (by kernel_rfl) ?_
    refine GO_call rfl rfl rfl rfl rfl rfl Try.call27 (fun w hw => mul_v (F_lt _) (F_lt _) (mul_val r0 i).symm) ?_
    rintro _ _ ⟨rfl, rfl⟩
    refine GA_one 4 (by kernel_rfl) ?_
    refine GO_s rfl rfl rfl (S_all rfl rfl ag37 (by first | (rw [len_B, eb_len]) | (rw [len_B, fl_len, le32_len]) | (rw [len_B, le32_len]) | (rw [len_B]; assumption) | rfl) (by first | exact all_B _ | rfl) (by repeat (first | exact .head | apply Rem.tail)) (by first | (rw [len_B, eb_len]) | (rw [len_B, fl_len, le32_len]) | (rw [len_B, le32_len]) | (rw [len_B]; assumption) | rfl)) ?_
    refine GA_done (by kernel_rfl) ?_
    (repeat (first | (with_reducible refine R_seq ?_) | (with_reducible refine R_block_normal ?_)))
    (repeat (with_reducible refine G_seq ?_))
    refine G_draw [] 5 rfl (by kernel_rfl) ?_
    refine GA_l 0 rfl (by kernel_rfl) (by kernel_rfl) (by kernel_rfl) (fun _ _ _ h => h) rfl rfl rfl rfl (Y_loadA rfl (by repeat (first | exact .head _ | apply List.Mem.tail)) ag37 (by first | (rw [len_B, eb_len]) | (rw [len_B, fl_len, le32_len]) | (rw [len_B, le32_len]) | (rw [len_B]; assumption) | rfl)) ?_
    refine GA_l 1 rfl (by kernel_rfl) (by kernel_rfl) (by kernel_rfl) (fun _ _ _ h => h) rfl rfl rfl rfl (Y_loadA rfl (by repeat (first | exact .head _ | apply List.Mem.tail)) ag37 (by first | (rw [len_B, eb_len]) | (rw [len_B, fl_len, le32_len]) | (rw [len_B, le32_len]) | (rw [len_B]; assumption) | rfl)) ?_
    refine GA_l 3 rfl (by kernel_rfl) (by kernel_rfl) (by kernel_rfl) (fun _ _ _ h => h) rfl rfl rfl rfl (Y_loadA rfl (by repeat (first | exact .head _ | apply List.Mem.tail)) ag37 (by first | (rw [len_B, eb_len]) | (rw [len_B, fl_len, le32_len]) | (rw [len_B, le32_len]) | (rw [len_B]; assumption) | rfl)) ?_
    refine GA_one 2 (by kernel_rfl) ?_
    refine GO_call rfl rfl rfl rfl rfl rfl Try.call27 (fun w hw => mul_v (F_lt _) (F_lt _) (mul_val _ _).symm) ?_
    rintro _ _ ⟨rfl, rfl⟩
    refine GA_y 4 rfl (by kernel_rfl) (by kernel_rfl) (by kernel_rfl) (fun _ _ _ h => h) rfl rfl rfl (Y_neqEl eg37 ti37 rfl rfl (F_lt _) (F_lt _)) ?_
    refine GA_done (by kernel_rfl) ?_
    (repeat (first | (with_reducible refine R_seq ?_) | (with_reducible refine R_block_normal ?_)))
    (repeat (with_reducible refine G_seq ?_))
    refine G_cond rfl (fun h28 => ?_) (fun h28 => ?_)
    · -- yes
      (repeat (with_reducible refine G_seq ?_))
      refine G_region ?_
      refine GL_y rfl rfl (Y_build (v := .agg (B (List.replicate 32 0)).toArray) (vs := []) rfl (fun w => run_build w 22 _ _ (by kernel_rfl))) ?_
      refine GL_s rfl (S_all rfl rfl ag22 (by first | (rw [len_B, eb_len]) | (rw [len_B, fl_len, le32_len]) | (rw [len_B, le32_len]) | (rw [len_B]; assumption) | rfl) (by first | exact all_B _ | rfl) (by repeat (first | exact .head | apply Rem.tail)) (by first | (rw [len_B, eb_len]) | (rw [len_B, fl_len, le32_len]) | (rw [len_B, le32_len]) | (rw [len_B]; assumption) | rfl)) ?_
      refine GL_y rfl rfl (Y_assign rfl) ?_
      refine GL_y rfl rfl (Y_assign rfl) ?_
      refine GL_nil ?_
      (repeat (first | (with_reducible refine R_seq ?_) | (with_reducible refine R_block_normal ?_)))
      (repeat (with_reducible refine G_seq ?_))
      refine G_ret ?_
      (repeat (first | (with_reducible refine R_then_ret ?_) | (with_reducible refine R_block_ret ?_)))
      refine R_ret (.ag rfl (by repeat (first | exact .head _ | apply List.Mem.tail)) (by exact ag22) (.tmp rfl (.tmp rfl .nil))) [] .nil ⟨?_, rfl⟩
      first | exact rv_none (rs_no h19 h28) | (rw [h19] at h28; cases h28)
    · -- no
      (repeat (with_reducible refine G_seq ?_))
      refine G_skip ?_
      (repeat (first | (with_reducible refine R_seq ?_) | (with_reducible refine R_block_normal ?_)))
      (repeat (with_reducible refine G_seq ?_))
      refine G_region ?_
      refine GL_y rfl rfl (Y_idxA1 (j := 0) ar37 rfl rfl (by first | omega | decide)) ?_
      refine GL_y rfl rfl (Y_loadS rfl sc35 (by repeat (first | exact .head _ | apply List.Mem.tail)) rfl) ?_
      refine GL_y rfl rfl (Y_iop rfl rfl (iop_andU (k := 1) (wd_lt _ _) (by decide))) ?_
      refine GL_y rfl rfl (Y_eqlN (b := 1) rfl rfl) ?_
      refine GL_nil ?_
      (repeat (first | (with_reducible refine R_seq ?_) | (with_reducible refine R_block_normal ?_)))
      (repeat (with_reducible refine G_seq ?_))
      refine G_cond_dec rfl (fun h33 => ?_) (fun h33 => ?_)
      · -- yes
        (repeat (with_reducible refine G_seq ?_))
        refine G_region ?_
        refine GL_y rfl rfl (Y_loadA rfl (by repeat (first | exact .head _ | apply List.Mem.tail)) ag37 (by first | (rw [len_B, eb_len]) | (rw [len_B, fl_len, le32_len]) | (rw [len_B, le32_len]) | (rw [len_B]; assumption) | rfl)) ?_
        refine GL_call rfl rfl rfl rfl Try.call26 .nil (fun w hw => negE) ?_
        rintro _ _ ⟨rfl, rfl⟩
        refine GL_s rfl (S_all rfl rfl ag37 (by first | (rw [len_B, eb_len]) | (rw [len_B, fl_len, le32_len]) | (rw [len_B, le32_len]) | (rw [len_B]; assumption) | rfl) (by first | exact all_B _ | rfl) (by repeat (first | exact .head | apply Rem.tail)) (by first | (rw [len_B, eb_len]) | (rw [len_B, fl_len, le32_len]) | (rw [len_B, le32_len]) | (rw [len_B]; assumption) | rfl)) ?_
        refine GL_nil ?_
        (repeat (first | (with_reducible refine R_seq ?_) | (with_reducible refine R_block_normal ?_)))
        (repeat (with_reducible refine G_seq ?_))
        refine G_region ?_
        refine GL_y rfl rfl (Y_loadA rfl (by repeat (first | exact .head _ | apply List.Mem.tail)) ag37 (by first | (rw [len_B, eb_len]) | (rw [len_B, fl_len, le32_len]) | (rw [len_B, le32_len]) | (rw [len_B]; assumption) | rfl)) ?_
        refine GL_call rfl rfl rfl rfl Try.call25 .nil (fun w hw => bytes_F) ?_
        rintro _ _ ⟨rfl, rfl⟩
        refine GL_s rfl (S_all rfl rfl ag22 (by first | (rw [len_B, eb_len]) | (rw [len_B, fl_len, le32_len]) | (rw [len_B, le32_len]) | (rw [len_B]; assumption) | rfl) (by first | exact all_B _ | rfl) (by repeat (first | exact .head | apply Rem.tail)) (by first | (rw [len_B, eb_len]) | (rw [len_B, fl_len, le32_len]) | (rw [len_B, le32_len]) | (rw [len_B]; assumption) | rfl)) ?_
        refine GL_y rfl rfl (Y_assign rfl) ?_
        refine GL_y rfl rfl (Y_assign rfl) ?_
        refine GL_nil ?_
        (repeat (first | (with_reducible refine R_seq ?_) | (with_reducible refine R_block_normal ?_)))
        (repeat (with_reducible refine G_seq ?_))
        refine G_ret ?_
        (repeat (first | (with_reducible refine R_then_ret ?_) | (with_reducible refine R_block_ret ?_)))
        refine R_ret (.ag rfl (by repeat (first | exact .head _ | apply List.Mem.tail)) (by exact ag22) (.tmp rfl (.tmp rfl .nil))) [] .nil ⟨?_, rfl⟩
        first | exact rv_some (rs_eq h19) (ev_t h33) | exact rv_some (rs_eq h19) (ev_f h33) | exact rv_some (rs_ne h19 h28) (ev_t h33) | exact rv_some (rs_ne h19 h28) (ev_f h33)
      · -- no
        (repeat (with_reducible refine G_seq ?_))
        refine G_skip ?_
        (repeat (first | (with_reducible refine R_seq ?_) | (with_reducible refine R_block_normal ?_)))
        (repeat (with_reducible refine G_seq ?_))
        refine G_region ?_
        refine GL_y rfl rfl (Y_loadA rfl (by repeat (first | exact .head _ | apply List.Mem.tail)) ag37 (by first | (rw [len_B, eb_len]) | (rw [len_B, fl_len, le32_len]) | (rw [len_B, le32_len]) | (rw [len_B]; assumption) | rfl)) ?_
        refine GL_call rfl rfl rfl rfl Try.call25 .nil (fun w hw => bytes_F) ?_
        rintro _ _ ⟨rfl, rfl⟩
        refine GL_s rfl (S_all rfl rfl ag22 (by first | (rw [len_B, eb_len]) | (rw [len_B, fl_len, le32_len]) | (rw [len_B, le32_len]) | (rw [len_B]; assumption) | rfl) (by first | exact all_B _ | rfl) (by repeat (first | exact .head | apply Rem.tail)) (by first | (rw [len_B, eb_len]) | (rw [len_B, fl_len, le32_len]) | (rw [len_B, le32_len]) | (rw [len_B]; assumption) | rfl)) ?_
        refine GL_y rfl rfl (Y_assign rfl) ?_
        refine GL_y rfl rfl (Y_assign rfl) ?_
        refine GL_nil ?_
        (repeat (first | (with_reducible refine R_seq ?_) | (with_reducible refine R_block_normal ?_)))
        (repeat (with_reducible refine G_seq ?_))
        refine G_ret ?_
        (repeat (first | (with_reducible refine R_then_ret ?_) | (with_reducible refine R_block_ret ?_)))
        refine R_ret (.ag rfl (by repeat (first | exact .head _ | apply List.Mem.tail)) (by exact ag22) (.tmp rfl (.tmp rfl .nil))) [] .nil ⟨?_, rfl⟩
        first | exact rv_some (rs_eq h19) (ev_t h33) | exact rv_some (rs_eq h19) (ev_f h33) | exact rv_some (rs_ne h19 h28) (ev_t h33) | exact rv_some (rs_ne h19 h28) (ev_f h33)
  · -- no
    (repeat (with_reducible refine G_seq ?_))
    refine G_skip ?_
    (repeat (first | (with_reducible refine R_seq ?_) | (with_reducible refine R_block_normal ?_)))
    (repeat (with_reducible refine G_seq ?_))
    refine G_draw [] 5 rfl (by kernel_rfl) ?_
    refine GA_l 0 rfl (by kernel_rfl) (by kernel_rfl) (by kernel_rfl) (fun _ _ _ h => h) rfl rfl rfl rfl (Y_loadA rfl (by repeat (first | exact .head _ | apply List.Mem.tail)) ag37 (by first | (rw [len_B, eb_len]) | (rw [len_B, fl_len, le32_len]) | (rw [len_B, le32_len]) | (rw [len_B]; assumption) | rfl)) ?_
    refine GA_l 1 rfl (by kernel_rfl) (by kernel_rfl) (by kernel_rfl) (fun _ _ _ h => h) rfl rfl rfl rfl (Y_loadA rfl (by repeat (first | exact .head _ | apply List.Mem.tail)) ag37 (by first | (rw [len_B, eb_len]) | (rw [len_B, fl_len, le32_len]) | (rw [len_B, le32_len]) | (rw [len_B]; assumption) | rfl)) ?_
    refine GA_l 3 rfl (by kernel_rfl) (by kernel_rfl) (by kernel_rfl) (fun _ _ _ h => h) rfl rfl rfl rfl (Y_loadA rfl (by repeat (first | exact .head _ | apply List.Mem.tail)) ag37 (by first | (rw [len_B, eb_len]) | (rw [len_B, fl_len, le32_len]) | (rw [len_B, le32_len]) | (rw [len_B]; assumption) | rfl)) ?_
    refine GA_one 2 (by kernel_rfl) ?_
    refine GO_call rfl rfl rfl rfl rfl rfl Try.call27 (fun w hw => mul_v (F_lt _) (F_lt _) (mul_val _ _).symm) ?_
    rintro _ _ ⟨rfl, rfl⟩
    refine GA_y 4 rfl (by kernel_rfl) (by kernel_rfl) (by kernel_rfl) (fun _ _ _ h => h) rfl rfl rfl (Y_neqEl eg37 ti37 rfl rfl (F_lt _) (F_lt _)) ?_
    refine GA_done (by kernel_rfl) ?_
    (repeat (first | (with_reducible refine R_seq ?_) | (with_reducible refine R_block_normal ?_)))
    (repeat (with_reducible refine G_seq ?_))
    refine G_cond rfl (fun h28 => ?_) (fun h28 => ?_)
    · -- yes
      (repeat (with_reducible refine G_seq ?_))
      refine G_region ?_
      refine GL_y rfl rfl (Y_build (v := .agg (B (List.replicate 32 0)).toArray) (vs := []) rfl (fun w => run_build w 22 _ _ (by kernel_rfl))) ?_
      refine GL_s rfl (S_all rfl rfl ag22 (by first | (rw [len_B, eb_len]) | (rw [len_B, fl_len, le32_len]) | (rw [len_B, le32_len]) | (rw [len_B]; assumption) | rfl) (by first | exact all_B _ | rfl) (by repeat (first | exact .head | apply Rem.tail)) (by first | (rw [len_B, eb_len]) | (rw [len_B, fl_len, le32_len]) | (rw [len_B, le32_len]) | (rw [len_B]; assumption) | rfl)) ?_
      refine GL_y rfl rfl (Y_assign rfl) ?_
      refine GL_y rfl rfl (Y_assign rfl) ?_
      refine GL_nil ?_
      (repeat (first | (with_reducible refine R_seq ?_) | (with_reducible refine R_block_normal ?_)))
      (repeat (with_reducible refine G_seq ?_))
      refine G_ret ?_
      (repeat (first | (with_reducible refine R_then_ret ?_) | (with_reducible refine R_block_ret ?_)))
      refine R_ret (.ag rfl (by repeat (first | exact .head _ | apply List.Mem.tail)) (by exact ag22) (.tmp rfl (.tmp rfl .nil))) [] .nil ⟨?_, rfl⟩
      first | exact rv_none (rs_no h19 h28) | (rw [h19] at h28; cases h28)
    · -- no
      (repeat (with_reducible refine G_seq ?_))
      refine G_skip ?_
      (repeat (first | (with_reducible refine R_seq ?_) | (with_reducible refine R_block_normal ?_)))
      (repeat (with_reducible refine G_seq ?_))
      refine G_region ?_
      refine GL_y rfl rfl (Y_idxA1 (j := 0) ar37 rfl rfl (by first | omega | decide)) ?_
      refine GL_y rfl rfl (Y_loadS rfl sc35 (by repeat (first | exact .head _ | apply List.Mem.tail)) rfl) ?_
      refine GL_y rfl rfl (Y_iop rfl rfl (iop_andU (k := 1) (wd_lt _ _) (by decide))) ?_
      refine GL_y rfl rfl (Y_eqlN (b := 1) rfl rfl) ?_
      refine GL_nil ?_
      (repeat (first | (with_reducible refine R_seq ?_) | (with_reducible refine R_block_normal ?_)))
      (repeat (with_reducible refine G_seq ?_))
      refine G_cond_dec rfl (fun h33 => ?_) (fun h33 => ?_)
      · -- yes
        (repeat (with_reducible refine G_seq ?_))
        refine G_region ?_
        refine GL_y rfl rfl (Y_loadA rfl (by repeat (first | exact .head _ | apply List.Mem.tail)) ag37 (by first | (rw [len_B, eb_len]) | (rw [len_B, fl_len, le32_len]) | (rw [len_B, le32_len]) | (rw [len_B]; assumption) | rfl)) ?_
        refine GL_call rfl rfl rfl rfl Try.call26 .nil (fun w hw => negE) ?_
        rintro _ _ ⟨rfl, rfl⟩
        refine GL_s rfl (S_all rfl rfl ag37 (by first | (rw [len_B, eb_len]) | (rw [len_B, fl_len, le32_len]) | (rw [len_B, le32_len]) | (rw [len_B]; assumption) | rfl) (by first | exact all_B _ | rfl) (by repeat (first | exact .head | apply Rem.tail)) (by first | (rw [len_B, eb_len]) | (rw [len_B, fl_len, le32_len]) | (rw [len_B, le32_len]) | (rw [len_B]; assumption) | rfl)) ?_
        refine GL_nil ?_
        (repeat (first | (with_reducible refine R_seq ?_) | (with_reducible refine R_block_normal ?_)))
        (repeat (with_reducible refine G_seq ?_))
        refine G_region ?_
        refine GL_y rfl rfl (Y_loadA rfl (by repeat (first | exact .head _ | apply List.Mem.tail)) ag37 (by first | (rw [len_B, eb_len]) | (rw [len_B, fl_len, le32_len]) | (rw [len_B, le32_len]) | (rw [len_B]; assumption) | rfl)) ?_
        refine GL_call rfl rfl rfl rfl Try.call25 .nil (fun w hw => bytes_F) ?_
        rintro _ _ ⟨rfl, rfl⟩
        refine GL_s rfl (S_all rfl rfl ag22 (by first | (rw [len_B, eb_len]) | (rw [len_B, fl_len, le32_len]) | (rw [len_B, le32_len]) | (rw [len_B]; assumption) | rfl) (by first | exact all_B _ | rfl) (by repeat (first | exact .head | apply Rem.tail)) (by first | (rw [len_B, eb_len]) | (rw [len_B, fl_len, le32_len]) | (rw [len_B, le32_len]) | (rw [len_B]; assumption) | rfl)) ?_
        refine GL_y rfl rfl (Y_assign rfl) ?_
        refine GL_y rfl rfl (Y_assign rfl) ?_
        refine GL_nil ?_
        (repeat (first | (with_reducible refine R_seq ?_) | (with_reducible refine R_block_normal ?_)))
        (repeat (with_reducible refine G_seq ?_))
        refine G_ret ?_
        (repeat (first | (with_reducible refine R_then_ret ?_) | (with_reducible refine R_block_ret ?_)))
        refine R_ret (.ag rfl (by repeat (first | exact .head _ | apply List.Mem.tail)) (by exact ag22) (.tmp rfl (.tmp rfl .nil))) [] .nil ⟨?_, rfl⟩
        first | exact rv_some (rs_eq h19) (ev_t h33) | exact rv_some (rs_eq h19) (ev_f h33) | exact rv_some (rs_ne h19 h28) (ev_t h33) | exact rv_some (rs_ne h19 h28) (ev_f h33)
      · -- no
        (repeat (with_reducible refine G_seq ?_))
        refine G_skip ?_
        (repeat (first | (with_reducible refine R_seq ?_) | (with_reducible refine R_block_normal ?_)))
        (repeat (with_reducible refine G_seq ?_))
        refine G_region ?_
        refine GL_y rfl rfl (Y_loadA rfl (by repeat (first | exact .head _ | apply List.Mem.tail)) ag37 (by first | (rw [len_B, eb_len]) | (rw [len_B, fl_len, le32_len]) | (rw [len_B, le32_len]) | (rw [len_B]; assumption) | rfl)) ?_
        refine GL_call rfl rfl rfl rfl Try.call25 .nil (fun w hw => bytes_F) ?_
        rintro _ _ ⟨rfl, rfl⟩
        refine GL_s rfl (S_all rfl rfl ag22 (by first | (rw [len_B, eb_len]) | (rw [len_B, fl_len, le32_len]) | (rw [len_B, le32_len]) | (rw [len_B]; assumption) | rfl) (by first | exact all_B _ | rfl) (by repeat (first | exact .head | apply Rem.tail)) (by first | (rw [len_B, eb_len]) | (rw [len_B, fl_len, le32_len]) | (rw [len_B, le32_len]) | (rw [len_B]; assumption) | rfl)) ?_
        refine GL_y rfl rfl (Y_assign rfl) ?_
        refine GL_y rfl rfl (Y_assign rfl) ?_
        refine GL_nil ?_
        (repeat (first | (with_reducible refine R_seq ?_) | (with_reducible refine R_block_normal ?_)))
        (repeat (with_reducible refine G_seq ?_))
        refine G_ret ?_
        (repeat (first | (with_reducible refine R_then_ret ?_) | (with_reducible refine R_block_ret ?_)))
        refine R_ret (.ag rfl (by repeat (first | exact .head _ | apply List.Mem.tail)) (by exact ag22) (.tmp rfl (.tmp rfl .nil))) [] .nil ⟨?_, rfl⟩
        first | exact rv_some (rs_eq h19) (ev_t h33) | exact rv_some (rs_eq h19) (ev_f h33) | exact rv_some (rs_ne h19 h28) (ev_t h33) | exact rv_some (rs_ne h19 h28) (ev_f h33)
theorem rootE_F {a : F} {w : World} : FnAt Try.prog 20 [.agg (B (eb a)).toArray] [] w (Ret fun v N => v = rv (rootF a) ∧ N = []) := by
  rw [rootF_S]
  exact root_w (fun w => power_root) (fun w => power_i)
set_option maxHeartbeats 4000000 in
theorem rootE_bad {l : List UInt8} {w : World} (hl : l.length = 32) (h : ¬ leN l < P) : FnAt Try.prog 20 [.agg (B l).toArray] [] w (Ret fun v N => v = .tuple #[.agg (B (eb 0)).toArray, .bool false, .int .i64 1] ∧ N = []) := by
  refine FnAt.intro Try.func20 rfl Try.ntmps20 rfl _ rfl ?_
  (repeat (with_reducible refine G_seq ?_))
  refine G_region ?_
  refine GL_w rfl rfl (W_boxA rfl fun b1 => ?_)
  refine GL_w rfl rfl (W_alloc zr22 fun b2 => ?_)
  refine GL_y rfl rfl (Y_assign rfl) ?_
  refine GL_y rfl rfl (Y_assign rfl) ?_
  refine GL_nil ?_
  (repeat (first | (with_reducible refine R_seq ?_) | (with_reducible refine R_block_normal ?_)))
  (repeat (with_reducible refine G_seq ?_))
  refine G_region ?_
  refine GL_y rfl rfl (Y_loadA rfl (by repeat (first | exact .head _ | apply List.Mem.tail)) ag22 (by first | (rw [len_B, eb_len]) | (rw [len_B, fl_len, le32_len]) | (rw [len_B, le32_len]) | (rw [len_B]; assumption) | rfl)) ?_
  refine GL_call rfl rfl rfl rfl Try.call12 .nil (fun w hw => is_v hl (decide_eq_false h)) ?_
  rintro _ _ ⟨rfl, rfl⟩
  refine GL_y rfl rfl (Y_not rfl) ?_
  refine GL_nil ?_
  (repeat (first | (with_reducible refine R_seq ?_) | (with_reducible refine R_block_normal ?_)))
  (repeat (with_reducible refine G_seq ?_))
  refine G_cond_t rfl (by first | rfl | decide | (simp; done) | (simp; omega)) ?_
  (repeat (with_reducible refine G_seq ?_))
  refine G_region ?_
  refine GL_y rfl rfl (Y_build (v := .agg (B (List.replicate 32 0)).toArray) (vs := []) rfl (fun w => run_build w 22 _ _ (by kernel_rfl))) ?_
  refine GL_s rfl (S_all rfl rfl ag22 (by first | (rw [len_B, eb_len]) | (rw [len_B, fl_len, le32_len]) | (rw [len_B, le32_len]) | (rw [len_B]; assumption) | rfl) (by first | exact all_B _ | rfl) (by repeat (first | exact .head | apply Rem.tail)) (by first | (rw [len_B, eb_len]) | (rw [len_B, fl_len, le32_len]) | (rw [len_B, le32_len]) | (rw [len_B]; assumption) | rfl)) ?_
  refine GL_y rfl rfl (Y_assign rfl) ?_
  refine GL_y rfl rfl (Y_assign rfl) ?_
  refine GL_nil ?_
  (repeat (first | (with_reducible refine R_seq ?_) | (with_reducible refine R_block_normal ?_)))
  (repeat (with_reducible refine G_seq ?_))
  refine G_ret ?_
  (repeat (first | (with_reducible refine R_then_ret ?_) | (with_reducible refine R_block_ret ?_)))
  refine R_ret (.ag rfl (by repeat (first | exact .head _ | apply List.Mem.tail)) (by exact ag22) (.tmp rfl (.tmp rfl .nil))) [] .nil ⟨?_, rfl⟩
  rw [eb_zero]; rfl
end Go.Proofs.Ytefphcpaakhfbaa

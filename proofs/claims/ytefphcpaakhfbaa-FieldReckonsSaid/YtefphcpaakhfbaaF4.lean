/-
  bytes, read.
-/
import Derived.Test.YtefphcpaakhfbaaFN
namespace Go.Proofs.Ytefphcpaakhfbaa
open Go Go.Sl Go.RowKit Go.Fp

theorem ag22 : TAgg Try.prog 22 32 := ⟨_, Try.underlying22, rfl, by kernel_rfl⟩
theorem ar22 : TArr Try.prog 22 32 5 1 := ⟨Try.underlying22, by kernel_rfl⟩
theorem sc5 : TScal Try.prog 5 := ⟨_, Try.underlying5, rfl, by kernel_rfl⟩
theorem zr22 : TZero Try.prog 22 (List.replicate 32 (bv 0)) := by unfold TZero; kernel_rfl
theorem elV_nth {x i : Nat} (h : i < 4) : nth (elV x) i = some (wv (wd x i)) := by
  match i, h with
  | 0, _ => rfl
  | 1, _ => rfl
  | 2, _ => rfl
  | 3, _ => rfl
theorem zero32 (x : Nat) : List.replicate 32 (bv 0) = B (fl (le32 x) 0 (8 * 0)) := by
  rw [Nat.mul_zero, fl_zero, le32_len]
  simp [B]
theorem st_bytes {x i k : Nat} (hi : i < 4) (hk : k < 8) : setL (B (fl (le32 x) 0 (8 * i + k))) (0 + (8 * i + k)) (bv (UInt8.ofNat (wd x i / 2 ^ (8 * k)))) = some (B (fl (le32 x) 0 (8 * i + (k + 1)))) := by
  have hl := le32_len x
  have h : 8 * i + k < (le32 x).length := by omega
  rw [Nat.zero_add, setL_B (by rw [fl_len]; exact h), bytes_step hk h, fl_set _ _ _ h]
  rfl
theorem B_all (l : List UInt8) (h : l.length = 32) : B (fl l 0 32) = B l := by rw [← h, fl_all]
set_option maxHeartbeats 4000000 in
theorem bytes_is {x : Nat} {w : World} : FnAt Try.prog 25 [.agg (elV x).toArray] [] w (Ret fun v N => v = .agg (B (le32 x)).toArray ∧ N = []) := by
  refine FnAt.intro Try.func25 rfl Try.ntmps25 rfl _ rfl ?_
  (repeat (with_reducible refine G_seq ?_))
  refine G_region ?_
  refine GL_w rfl rfl (W_boxA rfl fun b1 => ?_)
  refine GL_w rfl rfl (W_alloc zr22 fun b2 => ?_)
  refine GL_nil ?_
  (repeat (first | (with_reducible refine R_seq ?_) | (with_reducible refine R_block_normal ?_)))
  (repeat (with_reducible refine G_seq ?_))
  refine G_region ?_
  refine GL_w rfl rfl (W_alloc zr22 fun b3 => ?_)
  refine GL_nil ?_
  (repeat (first | (with_reducible refine R_seq ?_) | (with_reducible refine R_block_normal ?_)))
  refine G_blk (zero32 x) ?_
  (repeat (with_reducible refine G_seq ?_))
  refine G_region ?_
  refine GL_y rfl rfl (Y_loadA rfl (by repeat (first | exact .head _ | apply List.Mem.tail)) ag37 (by rfl)) ?_
  refine GL_y rfl rfl (Y_move rfl) ?_
  refine GL_nil ?_
  (repeat (first | (with_reducible refine R_seq ?_) | (with_reducible refine R_block_normal ?_)))
  (repeat (with_reducible refine G_seq ?_))
  refine G_block ?_
  (repeat (with_reducible refine G_seq ?_))
  refine G_loop (ι := Nat) (fun i => 4 - i) (fun i => i ≤ 4) (fun i => [(2, .pointer (some ⟨b2, 0, none⟩)), (3, .pointer (some ⟨b3, 0, none⟩)), (7, .agg (elV x).toArray), (8, .int .i64 (i : Int))]) (fun i => [⟨b3, 22, 32, B (fl (le32 x) 0 (8 * i)), (0, 0)⟩, ⟨b2, 22, 32, List.replicate 32 (bv 0), (0, 0)⟩]) 0 ?_ (⟨by first | rfl | decide, by first | rfl | decide, by first | rfl | decide, by first | rfl | decide, trivial⟩) (by repeat (first | exact .nil | exact Pick.rfl' _ | exact Pick.skip (Pick.rfl' _) | exact Pick.skip (Pick.skip (Pick.rfl' _)) | (apply Pick.cons; focus (repeat (first | exact .head | apply Rem.tail))))) ?_
  · exact Nat.zero_le _
  intro i hi
  (repeat (with_reducible refine G_seq ?_))
  refine G_region ?_
  refine GL_y rfl rfl (Y_lssN (b := 4) rfl rfl) ?_
  refine GL_nil ?_
  (repeat (first | (with_reducible refine R_seq ?_) | (with_reducible refine R_block_normal ?_)))
  (repeat (with_reducible refine G_seq ?_))
  refine G_cond_dec rfl (fun ht9 => ?_) (fun ht9 => ?_)
  · -- yes
    (repeat (with_reducible refine G_seq ?_))
    refine G_skip ?_
    (repeat (first | (with_reducible refine R_seq ?_) | (with_reducible refine R_block_normal ?_)))
    (repeat (with_reducible refine G_seq ?_))
    refine G_block ?_
    have hi : i < 4 := ht9
    (repeat (with_reducible refine G_seq ?_))
    refine G_region ?_
    refine GL_y rfl rfl (Y_move rfl) ?_
    refine GL_y rfl rfl (Y_index ar37 sc35 rfl rfl (by omega) (elV_nth hi)) ?_
    refine GL_y rfl rfl (Y_assign rfl) ?_
    refine GL_y rfl rfl (Y_assign rfl) ?_
    refine GL_nil ?_
    (repeat (first | (with_reducible refine R_seq ?_) | (with_reducible refine R_block_normal ?_)))
    (repeat (with_reducible refine G_seq ?_))
    refine G_region ?_
    refine GL_y rfl rfl (Y_move rfl) ?_
    refine GL_nil ?_
    (repeat (first | (with_reducible refine R_seq ?_) | (with_reducible refine R_block_normal ?_)))
    (repeat (with_reducible refine G_seq ?_))
    refine G_block ?_
    (repeat (with_reducible refine G_seq ?_))
    refine G_loop (ι := Nat) (fun k => 8 - k) (fun k => k ≤ 8) (fun k => [(2, .pointer (some ⟨b2, 0, none⟩)), (3, .pointer (some ⟨b3, 0, none⟩)), (4, .int .i64 (i : Int)), (5, wv (wd x i)), (7, .agg (elV x).toArray), (8, .int .i64 (i : Int)), (12, .int .i64 (k : Int))]) (fun k => [⟨b3, 22, 32, B (fl (le32 x) 0 (8 * i + k)), (0, 0)⟩, ⟨b2, 22, 32, List.replicate 32 (bv 0), (0, 0)⟩]) 0 ?_ (⟨by first | rfl | decide, by first | rfl | decide, by first | rfl | decide, by first | rfl | decide, by first | rfl | decide, by first | rfl | decide, by first | rfl | decide, trivial⟩) (by repeat (first | exact .nil | exact Pick.rfl' _ | exact Pick.skip (Pick.rfl' _) | exact Pick.skip (Pick.skip (Pick.rfl' _)) | (apply Pick.cons; focus (repeat (first | exact .head | apply Rem.tail))))) ?_
    · exact Nat.zero_le _
    intro k hk
    (repeat (with_reducible refine G_seq ?_))
    refine G_region ?_
    refine GL_y rfl rfl (Y_lssN (b := 8) rfl rfl) ?_
    refine GL_nil ?_
    (repeat (first | (with_reducible refine R_seq ?_) | (with_reducible refine R_block_normal ?_)))
    (repeat (with_reducible refine G_seq ?_))
    refine G_cond_dec rfl (fun ht13 => ?_) (fun ht13 => ?_)
    · -- yes
      (repeat (with_reducible refine G_seq ?_))
      refine G_skip ?_
      (repeat (first | (with_reducible refine R_seq ?_) | (with_reducible refine R_block_normal ?_)))
      (repeat (with_reducible refine G_seq ?_))
      refine G_block ?_
      have hk : k < 8 := ht13
      (repeat (with_reducible refine G_seq ?_))
      refine G_region ?_
      refine GL_y rfl rfl (Y_move rfl) ?_
      refine GL_y rfl rfl (Y_assign rfl) ?_
      refine GL_nil ?_
      (repeat (first | (with_reducible refine R_seq ?_) | (with_reducible refine R_block_normal ?_)))
      (repeat (with_reducible refine G_seq ?_))
      refine G_region ?_
      refine GL_y rfl rfl (Y_move rfl) ?_
      refine GL_y rfl rfl (Y_mulN (a := 8) rfl rfl (by omega)) ?_
      refine GL_y rfl rfl (Y_move rfl) ?_
      refine GL_y rfl rfl (Y_addN rfl rfl (by first | omega | decide)) ?_
      refine GL_y rfl rfl (Y_move rfl) ?_
      refine GL_y rfl rfl (Y_move rfl) ?_
      refine GL_y rfl rfl (Y_mulN (a := 8) rfl rfl (by omega)) ?_
      refine GL_y rfl rfl (Y_shrN rfl rfl (by simp only [IntKind.bits]; omega)) ?_
      refine GL_y rfl rfl (Y_byteN Try.underlying35 Try.underlying5 rfl) ?_
      refine GL_y rfl rfl (Y_idxA1 ar22 rfl rfl (by omega)) ?_
      refine GL_s rfl (S_sc rfl sc5 rfl rfl (by repeat (first | exact .head | apply Rem.tail)) (st_bytes hi hk)) ?_
      refine GL_nil ?_
      (repeat (first | (with_reducible refine R_seq ?_) | (with_reducible refine R_block_normal ?_)))
      (repeat (with_reducible refine G_seq ?_))
      refine G_region ?_
      refine GL_y rfl rfl (Y_addN (b := 1) rfl rfl (by first | omega | decide)) ?_
      refine GL_y rfl rfl (Y_move rfl) ?_
      refine GL_nil ?_
      (repeat (first | (with_reducible refine R_seq ?_) | (with_reducible refine R_block_normal ?_)))
      (repeat (with_reducible refine R_block_normal ?_))
      refine R_fam (k + 1) ?_ (⟨by first | rfl | decide, by first | rfl | decide, by first | rfl | decide, by first | rfl | decide, by first | rfl | decide, by first | rfl | decide, by first | rfl | decide, trivial⟩) (by repeat (first | exact .nil | exact Pick.rfl' _ | exact Pick.skip (Pick.rfl' _) | exact Pick.skip (Pick.skip (Pick.rfl' _)) | (apply Pick.cons; focus (repeat (first | exact .head | apply Rem.tail)))))
      exact ⟨by omega, by omega⟩
    · -- no
      (repeat (with_reducible refine G_seq ?_))
      refine G_exit ?_
      (repeat (first | (with_reducible refine R_then_exit ?_) | (with_reducible refine R_block_exit ?_) | (with_reducible refine R_block_other (by decide) ?_)))
      (repeat (first | (with_reducible refine R_seq ?_) | (with_reducible refine R_block_normal ?_)))
      have hk8 : k = 8 := by have h : ¬ k < 8 := ht13; omega
      subst hk8
      (repeat (with_reducible refine G_seq ?_))
      refine G_region ?_
      refine GL_y rfl rfl (Y_addN (b := 1) rfl rfl (by first | omega | decide)) ?_
      refine GL_y rfl rfl (Y_move rfl) ?_
      refine GL_nil ?_
      (repeat (first | (with_reducible refine R_seq ?_) | (with_reducible refine R_block_normal ?_)))
      (repeat (with_reducible refine R_block_normal ?_))
      refine R_fam (i + 1) ?_ (⟨by first | rfl | decide, by first | rfl | decide, by first | rfl | decide, by first | rfl | decide, trivial⟩) (by repeat (first | exact .nil | exact Pick.rfl' _ | exact Pick.skip (Pick.rfl' _) | exact Pick.skip (Pick.skip (Pick.rfl' _)) | (apply Pick.cons; focus (repeat (first | exact .head | apply Rem.tail)))))
      exact ⟨by omega, by omega⟩
  · -- no
    (repeat (with_reducible refine G_seq ?_))
    refine G_exit ?_
    (repeat (first | (with_reducible refine R_then_exit ?_) | (with_reducible refine R_block_exit ?_) | (with_reducible refine R_block_other (by decide) ?_)))
    (repeat (first | (with_reducible refine R_seq ?_) | (with_reducible refine R_block_normal ?_)))
    have hi4 : i = 4 := by have h : ¬ i < 4 := ht9; omega
    subst hi4
    (repeat (with_reducible refine G_seq ?_))
    refine G_region ?_
    refine GL_y rfl rfl (Y_loadA rfl (by repeat (first | exact .head _ | apply List.Mem.tail)) ag22 (by rfl)) ?_
    refine GL_s rfl (S_all rfl rfl ag22 (by rfl) (by rfl) (by repeat (first | exact .head | apply Rem.tail)) (by rfl)) ?_
    refine GL_nil ?_
    (repeat (first | (with_reducible refine R_seq ?_) | (with_reducible refine R_block_normal ?_)))
    (repeat (with_reducible refine G_seq ?_))
    refine G_ret ?_
    (repeat (first | (with_reducible refine R_then_ret ?_) | (with_reducible refine R_block_ret ?_)))
    refine R_ret (.ag rfl (by repeat (first | exact .head _ | apply List.Mem.tail)) (by exact ag22) .nil) [] .nil ⟨?_, rfl⟩
    exact congrArg (fun z : List Value => Value.agg z.toArray) (B_all (le32 x) (le32_len x))
def wds (x : Nat) : List Nat := [wd x 0, wd x 1, wd x 2, wd x 3]
theorem wds_get {x i : Nat} (h : i < (wds x).length) : (wds x)[i] = wd x i := by
  match i, h with
  | 0, _ => rfl
  | 1, _ => rfl
  | 2, _ => rfl
  | 3, _ => rfl
theorem W_wds (x : Nat) : W (wds x) = elV x := rfl
def rdW (x i m : Nat) : List Nat := (fl (wds x) 0 i).set i (rdw x i m)
theorem rdW_len (x i m : Nat) : (rdW x i m).length = 4 := by simp [rdW, fl_len, wds]
theorem rdW_get {x i m : Nat} (h : i < 4) : (rdW x i m)[i]? = some (rdw x i m) := by
  unfold rdW
  rw [List.getElem?_set_self (by rw [fl_len]; exact h)]
theorem rdW_zero {x i : Nat} (h : i < 4) : W (fl (wds x) 0 i) = W (rdW x i 0) := by
  unfold rdW
  rw [rdw_zero]
  congr 1
  apply List.ext_getElem?
  intro j
  rw [List.getElem?_set]
  split
  · rename_i e
    subst e
    rw [fl_get _ _ _ h, if_pos (by rw [fl_len]; exact h)]
  · rfl
theorem rdW_all {x i : Nat} (h : i < 4) : W (rdW x i 8) = W (fl (wds x) 0 (i + 1)) := by
  have h4 : i < (wds x).length := h
  unfold rdW
  rw [rdw_all, ← wds_get h4, fl_set _ _ _ h4]
theorem rdW_set {x i m v : Nat} (h : i < 4) (e : v = rdw x i (m + 1)) : setL (W (rdW x i m)) (0 + i) (wv v) = some (W (rdW x i (m + 1))) := by
  subst e
  rw [Nat.zero_add, setL_W (by rw [rdW_len]; exact h)]
  unfold rdW
  rw [List.set_set]
theorem rd_idx {i m : Nat} (hi : i < 4) (hm : m < 8) : Value.int .i64 (IntKind.i64.wrap (((8 * i : Nat) : Int) + (7 - (m : Int)))) = .int .i64 ((8 * i + (7 - m) : Nat) : Int) := by
  have e : ((8 * i : Nat) : Int) + (7 - (m : Int)) = ((8 * i + (7 - m) : Nat) : Int) := by omega
  rw [e, wrap64_nat (by omega)]
theorem rd_dec {m : Nat} (hm : m < 8) : Value.int .i64 (IntKind.i64.wrap (7 - (m : Int) - 1)) = .int .i64 (7 - ((m + 1 : Nat) : Int)) := by
  have e : IntKind.i64.wrap (7 - (m : Int) - 1) = 7 - ((m + 1 : Nat) : Int) := by
    rw [IntKind.wrap_i64]; omega
  rw [e]
theorem el_zero : ([wv 0, wv 0, wv 0, wv 0] : List Value) = W (List.replicate 4 0) := rfl
theorem el_fl0 (x : Nat) : ([wv 0, wv 0, wv 0, wv 0] : List Value) = W (fl (wds x) 0 0) := by rw [fl_zero]; rfl
theorem W_all (x : Nat) : W (fl (wds x) 0 4) = elV x := by
  have h : (wds x).length = 4 := rfl
  rw [← h, fl_all]; rfl
set_option maxHeartbeats 4000000 in
theorem read_is {l : List UInt8} {w : World} (hl : l.length = 32) : FnAt Try.prog 28 [.agg (B l).toArray] [] w (Ret fun v N => v = .agg (elV (leN l)).toArray ∧ N = []) := by
  refine FnAt.intro Try.func28 rfl Try.ntmps28 rfl _ rfl ?_
  (repeat (with_reducible refine G_seq ?_))
  refine G_region ?_
  refine GL_w rfl rfl (W_boxA rfl fun b1 => ?_)
  refine GL_w rfl rfl (W_alloc zr37 fun b2 => ?_)
  refine GL_nil ?_
  (repeat (first | (with_reducible refine R_seq ?_) | (with_reducible refine R_block_normal ?_)))
  (repeat (with_reducible refine G_seq ?_))
  refine G_region ?_
  refine GL_w rfl rfl (W_alloc zr37 fun b3 => ?_)
  refine GL_nil ?_
  (repeat (first | (with_reducible refine R_seq ?_) | (with_reducible refine R_block_normal ?_)))
  refine G_blk (el_fl0 (leN l)) ?_
  (repeat (with_reducible refine G_seq ?_))
  refine G_region ?_
  refine GL_y rfl rfl (Y_move rfl) ?_
  refine GL_nil ?_
  (repeat (first | (with_reducible refine R_seq ?_) | (with_reducible refine R_block_normal ?_)))
  (repeat (with_reducible refine G_seq ?_))
  refine G_block ?_
  (repeat (with_reducible refine G_seq ?_))
  refine G_loop (ι := Nat) (fun i => 4 - i) (fun i => i ≤ 4) (fun i => [(1, .pointer (some ⟨b1, 0, none⟩)), (2, .pointer (some ⟨b2, 0, none⟩)), (3, .pointer (some ⟨b3, 0, none⟩)), (6, .int .i64 (i : Int))]) (fun i => [⟨b3, 37, 4, W (fl (wds (leN l)) 0 i), (0, 0)⟩, ⟨b1, 22, (B l).length, B l, (0, 0)⟩, ⟨b2, 37, 4, [wv 0, wv 0, wv 0, wv 0], (0, 0)⟩]) 0 ?_ (⟨by first | rfl | decide, by first | rfl | decide, by first | rfl | decide, by first | rfl | decide, trivial⟩) (by repeat (first | exact .nil | exact Pick.rfl' _ | exact Pick.skip (Pick.rfl' _) | exact Pick.skip (Pick.skip (Pick.rfl' _)) | (apply Pick.cons; focus (repeat (first | exact .head | apply Rem.tail))))) ?_
  · exact Nat.zero_le _
  intro i hi
  (repeat (with_reducible refine G_seq ?_))
  refine G_region ?_
  refine GL_y rfl rfl (Y_lssN (b := 4) rfl rfl) ?_
  refine GL_nil ?_
  (repeat (first | (with_reducible refine R_seq ?_) | (with_reducible refine R_block_normal ?_)))
  (repeat (with_reducible refine G_seq ?_))
  refine G_cond_dec rfl (fun ht7 => ?_) (fun ht7 => ?_)
  · -- yes
    (repeat (with_reducible refine G_seq ?_))
    refine G_skip ?_
    (repeat (first | (with_reducible refine R_seq ?_) | (with_reducible refine R_block_normal ?_)))
    (repeat (with_reducible refine G_seq ?_))
    refine G_block ?_
    have hi : i < 4 := ht7
    refine G_blk (rdW_zero hi) ?_
    (repeat (with_reducible refine G_seq ?_))
    refine G_region ?_
    refine GL_y rfl rfl (Y_move rfl) ?_
    refine GL_y rfl rfl (Y_assign rfl) ?_
    refine GL_nil ?_
    (repeat (first | (with_reducible refine R_seq ?_) | (with_reducible refine R_block_normal ?_)))
    (repeat (with_reducible refine G_seq ?_))
    refine G_region ?_
    refine GL_y rfl rfl (Y_assign rfl) ?_
    refine GL_nil ?_
    (repeat (first | (with_reducible refine R_seq ?_) | (with_reducible refine R_block_normal ?_)))
    (repeat (with_reducible refine G_seq ?_))
    refine G_block ?_
    (repeat (with_reducible refine G_seq ?_))
    refine G_loop (ι := Nat) (fun m => 8 - m) (fun m => m ≤ 8) (fun m => [(1, .pointer (some ⟨b1, 0, none⟩)), (2, .pointer (some ⟨b2, 0, none⟩)), (3, .pointer (some ⟨b3, 0, none⟩)), (4, .int .i64 (i : Int)), (5, .int .i64 (7 - (m : Int))), (6, .int .i64 (i : Int))]) (fun m => [⟨b3, 37, 4, W (rdW (leN l) i m), (0, 0)⟩, ⟨b1, 22, (B l).length, B l, (0, 0)⟩, ⟨b2, 37, 4, [wv 0, wv 0, wv 0, wv 0], (0, 0)⟩]) 0 ?_ (⟨by first | rfl | decide, by first | rfl | decide, by first | rfl | decide, by first | rfl | decide, by first | rfl | decide, by first | rfl | decide, trivial⟩) (by repeat (first | exact .nil | exact Pick.rfl' _ | exact Pick.skip (Pick.rfl' _) | exact Pick.skip (Pick.skip (Pick.rfl' _)) | (apply Pick.cons; focus (repeat (first | exact .head | apply Rem.tail))))) ?_
    · exact Nat.zero_le _
    intro m hm
    (repeat (with_reducible refine G_seq ?_))
    refine G_region ?_
    refine GL_y rfl rfl (Y_move rfl) ?_
    refine GL_y rfl rfl (Y_iop rfl rfl rfl) ?_
    refine GL_nil ?_
    (repeat (first | (with_reducible refine R_seq ?_) | (with_reducible refine R_block_normal ?_)))
    (repeat (with_reducible refine G_seq ?_))
    refine G_cond_dec rfl (fun ht10 => ?_) (fun ht10 => ?_)
    · -- yes
      (repeat (with_reducible refine G_seq ?_))
      refine G_skip ?_
      (repeat (first | (with_reducible refine R_seq ?_) | (with_reducible refine R_block_normal ?_)))
      (repeat (with_reducible refine G_seq ?_))
      refine G_block ?_
      have hm : m < 8 := by have h : (7 - (m : Int)) ≥ 0 := ht10; omega
      have hlt : 8 * i + (7 - m) < l.length := by omega
      (repeat (with_reducible refine G_seq ?_))
      refine G_draw [14] 15 rfl (by kernel_rfl) ?_
      refine GA_y 0 rfl (by kernel_rfl) (by kernel_rfl) (by kernel_rfl) (fun _ _ _ h => h) rfl rfl rfl (Y_move rfl) ?_
      refine GA_y 1 rfl (by kernel_rfl) (by kernel_rfl) (by kernel_rfl) (fun _ _ _ h => h) rfl rfl rfl (Y_move rfl) ?_
      refine GA_y 2 rfl (by kernel_rfl) (by kernel_rfl) (by kernel_rfl) (fun _ _ _ h => h) rfl rfl rfl (Y_idxA1 ar37 rfl rfl (by first | omega | decide)) ?_
      refine GA_l 3 rfl (by kernel_rfl) (by kernel_rfl) (by kernel_rfl) (fun _ _ _ h => h) rfl rfl rfl rfl (Y_loadS rfl sc35 (by repeat (first | exact .head _ | apply List.Mem.tail)) (nth_W0 (rdW_get hi))) ?_
      refine GA_y 4 rfl (by kernel_rfl) (by kernel_rfl) (by kernel_rfl) (fun _ _ _ h => h) rfl rfl rfl (Y_shlU (b := 8) rfl rfl (by decide)) ?_
      refine GA_y 5 rfl (by kernel_rfl) (by kernel_rfl) (by kernel_rfl) (fun _ _ _ h => h) rfl rfl rfl (Y_move rfl) ?_
      refine GA_y 6 rfl (by kernel_rfl) (by kernel_rfl) (by kernel_rfl) (fun _ _ _ h => h) rfl rfl rfl (Y_mulN (a := 8) rfl rfl (by omega)) ?_
      refine GA_y 7 rfl (by kernel_rfl) (by kernel_rfl) (by kernel_rfl) (fun _ _ _ h => h) rfl rfl rfl (Y_move rfl) ?_
      refine GA_y 8 rfl (by kernel_rfl) (by kernel_rfl) (by kernel_rfl) (fun _ _ _ h => h) rfl rfl rfl ((Y_iop rfl rfl rfl).as _ (rd_idx hi hm)) ?_
      refine GA_y 9 rfl (by kernel_rfl) (by kernel_rfl) (by kernel_rfl) (fun _ _ _ h => h) rfl rfl rfl (Y_idxA1 ar22 rfl rfl (by omega)) ?_
      refine GA_l 10 rfl (by kernel_rfl) (by kernel_rfl) (by kernel_rfl) (fun _ _ _ h => h) rfl rfl rfl rfl (Y_loadS rfl sc5 (by repeat (first | exact .head _ | apply List.Mem.tail)) (nth_B0 hlt)) ?_
      refine GA_y 11 rfl (by kernel_rfl) (by kernel_rfl) (by kernel_rfl) (fun _ _ _ h => h) rfl rfl rfl (Y_ofByte Try.underlying5 Try.underlying35 (by decide) rfl) ?_
      refine GA_y 12 rfl (by kernel_rfl) (by kernel_rfl) (by kernel_rfl) (fun _ _ _ h => h) rfl rfl rfl (Y_iop rfl rfl (or_byte (UInt8.toNat_lt _) (rdw_lt (leN l) i hm))) ?_
      refine GA_y 13 rfl (by kernel_rfl) (by kernel_rfl) (by kernel_rfl) (fun _ _ _ h => h) rfl rfl rfl (Y_idxA1 ar37 rfl rfl (by first | omega | decide)) ?_
      refine GA_one 14 (by kernel_rfl) ?_
      refine GO_s rfl rfl rfl (S_sc rfl sc35 rfl rfl (by repeat (first | exact .head | apply Rem.tail)) (rdW_set hi (rdw_step hm hlt).symm)) ?_
      refine GA_done (by kernel_rfl) ?_
      (repeat (first | (with_reducible refine R_seq ?_) | (with_reducible refine R_block_normal ?_)))
      (repeat (with_reducible refine G_seq ?_))
      refine G_region ?_
      refine GL_y rfl rfl (Y_move rfl) ?_
      refine GL_y rfl rfl ((Y_iop rfl rfl rfl).as _ (rd_dec hm)) ?_
      refine GL_y rfl rfl (Y_assign rfl) ?_
      refine GL_nil ?_
      (repeat (first | (with_reducible refine R_seq ?_) | (with_reducible refine R_block_normal ?_)))
      (repeat (with_reducible refine R_block_normal ?_))
      refine R_fam (m + 1) ?_ (⟨by first | rfl | decide, by first | rfl | decide, by first | rfl | decide, by first | rfl | decide, by first | rfl | decide, by first | rfl | decide, trivial⟩) (by repeat (first | exact .nil | exact Pick.rfl' _ | exact Pick.skip (Pick.rfl' _) | exact Pick.skip (Pick.skip (Pick.rfl' _)) | (apply Pick.cons; focus (repeat (first | exact .head | apply Rem.tail)))))
      exact ⟨by omega, by omega⟩
    · -- no
      (repeat (with_reducible refine G_seq ?_))
      refine G_exit ?_
      (repeat (first | (with_reducible refine R_then_exit ?_) | (with_reducible refine R_block_exit ?_) | (with_reducible refine R_block_other (by decide) ?_)))
      (repeat (first | (with_reducible refine R_seq ?_) | (with_reducible refine R_block_normal ?_)))
      have hm8 : m = 8 := by have h : ¬ (7 - (m : Int)) ≥ 0 := ht10; omega
      subst hm8
      refine G_blk (rdW_all hi) ?_
      (repeat (with_reducible refine G_seq ?_))
      refine G_region ?_
      refine GL_y rfl rfl (Y_addN (b := 1) rfl rfl (by first | omega | decide)) ?_
      refine GL_y rfl rfl (Y_move rfl) ?_
      refine GL_nil ?_
      (repeat (first | (with_reducible refine R_seq ?_) | (with_reducible refine R_block_normal ?_)))
      (repeat (with_reducible refine R_block_normal ?_))
      refine R_fam (i + 1) ?_ (⟨by first | rfl | decide, by first | rfl | decide, by first | rfl | decide, by first | rfl | decide, trivial⟩) (by repeat (first | exact .nil | exact Pick.rfl' _ | exact Pick.skip (Pick.rfl' _) | exact Pick.skip (Pick.skip (Pick.rfl' _)) | (apply Pick.cons; focus (repeat (first | exact .head | apply Rem.tail)))))
      exact ⟨by omega, by omega⟩
  · -- no
    (repeat (with_reducible refine G_seq ?_))
    refine G_exit ?_
    (repeat (first | (with_reducible refine R_then_exit ?_) | (with_reducible refine R_block_exit ?_) | (with_reducible refine R_block_other (by decide) ?_)))
    (repeat (first | (with_reducible refine R_seq ?_) | (with_reducible refine R_block_normal ?_)))
    have hi4 : i = 4 := by have h : ¬ i < 4 := ht7; omega
    subst hi4
    refine G_blk (W_all (leN l)) ?_
    (repeat (with_reducible refine G_seq ?_))
    refine G_region ?_
    refine GL_y rfl rfl (Y_loadA rfl (by repeat (first | exact .head _ | apply List.Mem.tail)) ag37 (by rfl)) ?_
    refine GL_s rfl (S_all rfl rfl ag37 (by rfl) (by rfl) (by repeat (first | exact .head | apply Rem.tail)) (by rfl)) ?_
    refine GL_nil ?_
    (repeat (first | (with_reducible refine R_seq ?_) | (with_reducible refine R_block_normal ?_)))
    (repeat (with_reducible refine G_seq ?_))
    refine G_ret ?_
    (repeat (first | (with_reducible refine R_then_ret ?_) | (with_reducible refine R_block_ret ?_)))
    refine R_ret (.ag rfl (by repeat (first | exact .head _ | apply List.Mem.tail)) (by exact ag37) .nil) [] .nil ⟨rfl, rfl⟩
end Go.Proofs.Ytefphcpaakhfbaa

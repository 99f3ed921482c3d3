/-
  The reference's digits and Mul.
-/
import Derived.Test.YtefphcpaakhfbaaLE
namespace Go.Proofs.Ytefphcpaakhfbaa
open Go Go.Sl Go.RowKit Go.Fp

theorem ag53 : TAgg Try.prog 53 16 := ⟨_, Try.underlying53, rfl, by kernel_rfl⟩
theorem ag55 : TAgg Try.prog 55 32 := ⟨_, Try.underlying55, rfl, by kernel_rfl⟩
theorem ag56 : TAgg Try.prog 56 17 := ⟨_, Try.underlying56, rfl, by kernel_rfl⟩
theorem ar53 : TArr Try.prog 53 16 3 1 := ⟨Try.underlying53, by kernel_rfl⟩
theorem ar55 : TArr Try.prog 55 32 3 1 := ⟨Try.underlying55, by kernel_rfl⟩
theorem ar56 : TArr Try.prog 56 17 3 1 := ⟨Try.underlying56, by kernel_rfl⟩
theorem zr53 : TZero Try.prog 53 (List.replicate 16 (.int .i64 0)) := by unfold TZero; kernel_rfl
theorem zr55 : TZero Try.prog 55 (List.replicate 32 (.int .i64 0)) := by unfold TZero; kernel_rfl
theorem zr56 : TZero Try.prog 56 (List.replicate 17 (.int .i64 0)) := by unfold TZero; kernel_rfl
theorem dig_st {l : List UInt8} {i : Nat} (hl : l.length = 32) (h : i < 16) : setL (IV (fl (dD 16 (leN l)) 0 i)) (0 + i) (.int .i64 (((l[2 * i]'(by omega)).toNat + 256 * (l[2 * i + 1]'(by omega)).toNat : Nat) : Int)) = some (IV (fl (dD 16 (leN l)) 0 (i + 1))) := by
  have hlen := dD_len 16 (leN l)
  have h2 : i < (dD 16 (leN l)).length := by omega
  rw [dig_pair h hl h2, setL_IV (by rw [fl_len]; exact h2), fl_set _ _ _ h2]
theorem IV_all (x : Nat) : IV (fl (dD 16 x) 0 16) = IV (dD 16 x) := by
  have h := fl_all (dD 16 x) 0
  rw [dD_len] at h
  rw [h]
theorem IV_z16 (x : Nat) : List.replicate 16 (.int .i64 0) = IV (fl (dD 16 x) 0 0) := by
  rw [fl_zero, dD_len]; simp [IV]
theorem IV_z32 : List.replicate 32 (.int .i64 0) = IV (List.replicate 32 0) := by simp [IV]
theorem IV_z17 : List.replicate 17 (.int .i64 0) = IV (List.replicate 17 0) := by simp [IV]
theorem IVd_len (x : Nat) : (IV (dD 16 x)).length = 16 := by rw [IV_len, dD_len]
set_option maxHeartbeats 4000000 in
theorem digits_is {l : List UInt8} {w : World} (hl : l.length = 32) : FnAt Try.prog 38 [.agg (B l).toArray] [] w (Ret fun v N => v = .agg (IV (dD 16 (leN l))).toArray ∧ N = []) := by
  refine FnAt.intro Try.func38 rfl Try.ntmps38 rfl _ rfl ?_
  (repeat (with_reducible refine G_seq ?_))
  refine G_region ?_
  refine GL_w rfl rfl (W_boxA rfl fun b1 => ?_)
  refine GL_w rfl rfl (W_alloc zr53 fun b2 => ?_)
  refine GL_nil ?_
  (repeat (first | (with_reducible refine R_seq ?_) | (with_reducible refine R_block_normal ?_)))
  (repeat (with_reducible refine G_seq ?_))
  refine G_region ?_
  refine GL_w rfl rfl (W_alloc zr53 fun b3 => ?_)
  refine GL_nil ?_
  (repeat (first | (with_reducible refine R_seq ?_) | (with_reducible refine R_block_normal ?_)))
  refine G_blk (IV_z16 (leN l)) ?_
  (repeat (with_reducible refine G_seq ?_))
  refine G_region ?_
  refine GL_y rfl rfl (Y_assign rfl) ?_
  refine GL_nil ?_
  (repeat (first | (with_reducible refine R_seq ?_) | (with_reducible refine R_block_normal ?_)))
  (repeat (with_reducible refine G_seq ?_))
  refine G_block ?_
  (repeat (with_reducible refine G_seq ?_))
  refine G_loop (ι := Nat) (fun i => 16 - i) (fun i => i ≤ 16) (fun i => [(1, .pointer (some ⟨b1, 0, none⟩)), (2, .pointer (some ⟨b2, 0, none⟩)), (3, .pointer (some ⟨b3, 0, none⟩)), (4, .int .i64 (i : Int))]) (fun i => [⟨b3, 53, 16, IV (fl (dD 16 (leN l)) 0 i), (0, 0)⟩, ⟨b2, 53, 16, List.replicate 16 (.int .i64 0), (0, 0)⟩, ⟨b1, 22, (B l).length, B l, (0, 0)⟩]) 0 ?_ (⟨by first | rfl | decide, by first | rfl | decide, by first | rfl | decide, by first | rfl | decide, trivial⟩) (by repeat (first | exact .nil | exact Pick.rfl' _ | exact Pick.skip (Pick.rfl' _) | exact Pick.skip (Pick.skip (Pick.rfl' _)) | (apply Pick.cons; focus (repeat (first | exact .head | apply Rem.tail))))) ?_
  · exact Nat.zero_le _
  intro i hile
  (repeat (with_reducible refine G_seq ?_))
  refine G_region ?_
  refine GL_y rfl rfl (Y_move rfl) ?_
  refine GL_y rfl rfl (Y_lssN (b := 16) rfl rfl) ?_
  refine GL_nil ?_
  (repeat (first | (with_reducible refine R_seq ?_) | (with_reducible refine R_block_normal ?_)))
  (repeat (with_reducible refine G_seq ?_))
  refine G_cond_dec rfl (fun ht6 => ?_) (fun ht6 => ?_)
  · -- yes
    (repeat (with_reducible refine G_seq ?_))
    refine G_skip ?_
    (repeat (first | (with_reducible refine R_seq ?_) | (with_reducible refine R_block_normal ?_)))
    (repeat (with_reducible refine G_seq ?_))
    refine G_block ?_
    have hi : i < 16 := ht6
    have u1 := (l[2 * i]'(by omega)).toNat_lt
    have u2 := (l[2 * i + 1]'(by omega)).toNat_lt
    (repeat (with_reducible refine G_seq ?_))
    refine G_draw [15] 16 rfl (by kernel_rfl) ?_
    refine GA_y 0 rfl (by kernel_rfl) (by kernel_rfl) (by kernel_rfl) (fun _ _ _ h => h) rfl rfl rfl (Y_move rfl) ?_
    refine GA_y 1 rfl (by kernel_rfl) (by kernel_rfl) (by kernel_rfl) (fun _ _ _ h => h) rfl rfl rfl (Y_move rfl) ?_
    refine GA_y 2 rfl (by kernel_rfl) (by kernel_rfl) (by kernel_rfl) (fun _ _ _ h => h) rfl rfl rfl (Y_mulN (a := 2) rfl rfl (by omega)) ?_
    refine GA_y 3 rfl (by kernel_rfl) (by kernel_rfl) (by kernel_rfl) (fun _ _ _ h => h) rfl rfl rfl (Y_idxA1 ar22 rfl rfl (by omega)) ?_
    refine GA_l 4 rfl (by kernel_rfl) (by kernel_rfl) (by kernel_rfl) (fun _ _ _ h => h) rfl rfl rfl rfl (Y_loadS rfl sc5 (by repeat (first | exact .head _ | apply List.Mem.tail)) (nth_B0 (i := 2 * i) (by omega))) ?_
    refine GA_y 5 rfl (by kernel_rfl) (by kernel_rfl) (by kernel_rfl) (fun _ _ _ h => h) rfl rfl rfl (Y_ofByte Try.underlying5 Try.underlying3 (by decide) rfl) ?_
    refine GA_y 6 rfl (by kernel_rfl) (by kernel_rfl) (by kernel_rfl) (fun _ _ _ h => h) rfl rfl rfl (Y_move rfl) ?_
    refine GA_y 7 rfl (by kernel_rfl) (by kernel_rfl) (by kernel_rfl) (fun _ _ _ h => h) rfl rfl rfl (Y_mulN (a := 2) rfl rfl (by omega)) ?_
    refine GA_y 8 rfl (by kernel_rfl) (by kernel_rfl) (by kernel_rfl) (fun _ _ _ h => h) rfl rfl rfl (Y_addN (b := 1) rfl rfl (by omega)) ?_
    refine GA_y 9 rfl (by kernel_rfl) (by kernel_rfl) (by kernel_rfl) (fun _ _ _ h => h) rfl rfl rfl (Y_idxA1 ar22 rfl rfl (by omega)) ?_
    refine GA_l 10 rfl (by kernel_rfl) (by kernel_rfl) (by kernel_rfl) (fun _ _ _ h => h) rfl rfl rfl rfl (Y_loadS rfl sc5 (by repeat (first | exact .head _ | apply List.Mem.tail)) (nth_B0 (i := 2 * i + 1) (by omega))) ?_
    refine GA_y 11 rfl (by kernel_rfl) (by kernel_rfl) (by kernel_rfl) (fun _ _ _ h => h) rfl rfl rfl (Y_ofByte Try.underlying5 Try.underlying3 (by decide) rfl) ?_
    refine GA_y 12 rfl (by kernel_rfl) (by kernel_rfl) (by kernel_rfl) (fun _ _ _ h => h) rfl rfl rfl (Y_mulN (a := 256) rfl rfl (by omega)) ?_
    refine GA_y 13 rfl (by kernel_rfl) (by kernel_rfl) (by kernel_rfl) (fun _ _ _ h => h) rfl rfl rfl (Y_addN rfl rfl (by omega)) ?_
    refine GA_y 14 rfl (by kernel_rfl) (by kernel_rfl) (by kernel_rfl) (fun _ _ _ h => h) rfl rfl rfl (Y_idxA1 ar53 rfl rfl (by omega)) ?_
    refine GA_one 15 (by kernel_rfl) ?_
    refine GO_s rfl rfl rfl (S_sc rfl sc3 rfl rfl (by repeat (first | exact .head | apply Rem.tail)) (dig_st hl hi)) ?_
    refine GA_done (by kernel_rfl) ?_
    (repeat (first | (with_reducible refine R_seq ?_) | (with_reducible refine R_block_normal ?_)))
    (repeat (with_reducible refine G_seq ?_))
    refine G_region ?_
    refine GL_y rfl rfl (Y_move rfl) ?_
    refine GL_y rfl rfl (Y_addN (b := 1) rfl rfl (by first | omega | decide)) ?_
    refine GL_y rfl rfl (Y_assign rfl) ?_
    refine GL_nil ?_
    (repeat (first | (with_reducible refine R_seq ?_) | (with_reducible refine R_block_normal ?_)))
    (repeat (with_reducible refine R_block_normal ?_))
    refine R_fam (i + 1) ?_ (⟨by first | rfl | decide, by first | rfl | decide, by first | rfl | decide, by first | rfl | decide, trivial⟩) (by repeat (first | exact .nil | exact Pick.rfl' _ | exact Pick.skip (Pick.rfl' _) | exact Pick.skip (Pick.skip (Pick.rfl' _)) | (apply Pick.cons; focus (repeat (first | exact .head | apply Rem.tail)))))
    exact ⟨by omega, by omega⟩
  · -- no
    (repeat (with_reducible refine G_seq ?_))
    refine G_exit ?_
    (repeat (first | (with_reducible refine R_then_exit ?_) | (with_reducible refine R_block_exit ?_) | (with_reducible refine R_block_other (by decide) ?_)))
    (repeat (first | (with_reducible refine R_seq ?_) | (with_reducible refine R_block_normal ?_)))
    have he : i = 16 := by have h : ¬ i < 16 := ht6; omega
    subst he
    refine G_blk (IV_all (leN l)) ?_
    (repeat (with_reducible refine G_seq ?_))
    refine G_region ?_
    refine GL_y rfl rfl (Y_loadA rfl (by repeat (first | exact .head _ | apply List.Mem.tail)) ag53 (by first | exact IVd_len _ | (rw [IV_len]; assumption) | (rw [len_B]; assumption) | rfl)) ?_
    refine GL_s rfl (S_all rfl rfl ag53 (by first | exact IVd_len _ | (rw [IV_len]; assumption) | (rw [len_B]; assumption) | rfl) (by first | exact all_IV _ | exact all_B _ | rfl) (by repeat (first | exact .head | apply Rem.tail)) (by first | exact IVd_len _ | (rw [IV_len]; assumption) | (rw [len_B]; assumption) | rfl)) ?_
    refine GL_nil ?_
    (repeat (first | (with_reducible refine R_seq ?_) | (with_reducible refine R_block_normal ?_)))
    (repeat (with_reducible refine G_seq ?_))
    refine G_ret ?_
    (repeat (first | (with_reducible refine R_then_ret ?_) | (with_reducible refine R_block_ret ?_)))
    refine R_ret (.ag rfl (by repeat (first | exact .head _ | apply List.Mem.tail)) (by rw [IVd_len]; exact ag53) .nil) [] .nil ⟨rfl, rfl⟩
theorem digits_F {a : F} {w : World} : FnAt Try.prog 38 [.agg (B (eb a)).toArray] [] w (Ret fun v N => v = .agg (IV (dD 16 a.val)).toArray ∧ N = []) := by
  have h := digits_is (w := w) (eb_len a)
  rwa [leN_eb] at h
structure WI where
  k : Nat
  ws : List Nat
structure QI where
  i : Nat
  os : List UInt8
  ao : Option Addr
  c : Nat
  N : List Blk
theorem dD_at (x : Nat) {i : Nat} (h : i < 16) : ∃ m, (dD 16 x)[i]? = some m ∧ m < w16 := by
  have h2 : i < (dD 16 x).length := by rw [dD_len]; exact h
  exact ⟨(dD 16 x)[i], List.getElem?_eq_getElem h2, dD_lt 16 x _ (List.getElem_mem h2)⟩
theorem get_of {l : List Nat} {i n : Nat} (hl : l.length = n) (h : i < n) : ∃ m, l[i]? = some m := ⟨l[i], List.getElem?_eq_getElem (by omega)⟩
theorem lo_bound {xs ys ws : List Nat} (h : WO xs ys 16 0 0 ws) : ∀ a ∈ ws, a ≤ 1099511627776 := fun a ha => Nat.le_trans (h.hb a ha) (by decide)
theorem set_ne {l : List Nat} {i v a : Nat} (h : l[i]? = some a) : (l.set (i + 1) v)[i]? = some a := by rw [List.getElem?_set_ne (by omega)]; exact h
theorem rnd0 {i m : Nat} {xs ys ws : List Nat} (h : WO xs ys i 0 0 ws) : WO xs ys i m 0 ws := h.turn
set_option maxHeartbeats 4000000 in
theorem qmul_F {a b : F} {w : World} : FnAt Try.prog 17 [.agg (B (eb a)).toArray, .agg (B (eb b)).toArray] [] w (Ret fun r N => r = .agg (B (eb (a * b))).toArray ∧ N = []) := by
  refine FnAt.intro Try.func17 rfl Try.ntmps17 rfl _ rfl ?_
  (repeat (with_reducible refine G_seq ?_))
  refine G_region ?_
  refine GL_w rfl rfl (W_boxA rfl fun b2 => ?_)
  refine GL_w rfl rfl (W_boxA rfl fun b3 => ?_)
  refine GL_w rfl rfl (W_alloc zr22 fun b4 => ?_)
  refine GL_nil ?_
  (repeat (first | (with_reducible refine R_seq ?_) | (with_reducible refine R_block_normal ?_)))
  (repeat (with_reducible refine G_seq ?_))
  refine G_region ?_
  refine GL_y rfl rfl (Y_loadA rfl (by repeat (first | exact .head _ | apply List.Mem.tail)) ag22 (lenB_eb _)) ?_
  refine GL_call rfl rfl rfl rfl Try.call38 .nil (fun w hw => digits_F) ?_
  rintro _ _ ⟨rfl, rfl⟩
  refine GL_w rfl rfl (W_alloc zr53 fun b5 => ?_)
  refine GL_s rfl (S_all rfl rfl ag53 (by first | exact IVd_len _ | (rw [IV_len]; assumption) | (rw [len_B]; assumption) | rfl) (by first | exact all_IV _ | exact all_B _ | rfl) (by repeat (first | exact .head | apply Rem.tail)) (by first | exact IVd_len _ | (rw [IV_len]; assumption) | (rw [len_B]; assumption) | rfl)) ?_
  refine GL_nil ?_
  (repeat (first | (with_reducible refine R_seq ?_) | (with_reducible refine R_block_normal ?_)))
  (repeat (with_reducible refine G_seq ?_))
  refine G_region ?_
  refine GL_y rfl rfl (Y_loadA rfl (by repeat (first | exact .head _ | apply List.Mem.tail)) ag22 (lenB_eb _)) ?_
  refine GL_call rfl rfl rfl rfl Try.call38 .nil (fun w hw => digits_F) ?_
  rintro _ _ ⟨rfl, rfl⟩
  refine GL_w rfl rfl (W_alloc zr53 fun b6 => ?_)
  refine GL_s rfl (S_all rfl rfl ag53 (by first | exact IVd_len _ | (rw [IV_len]; assumption) | (rw [len_B]; assumption) | rfl) (by first | exact all_IV _ | exact all_B _ | rfl) (by repeat (first | exact .head | apply Rem.tail)) (by first | exact IVd_len _ | (rw [IV_len]; assumption) | (rw [len_B]; assumption) | rfl)) ?_
  refine GL_nil ?_
  (repeat (first | (with_reducible refine R_seq ?_) | (with_reducible refine R_block_normal ?_)))
  (repeat (with_reducible refine G_seq ?_))
  refine G_region ?_
  refine GL_w rfl rfl (W_alloc zr55 fun b7 => ?_)
  refine GL_nil ?_
  (repeat (first | (with_reducible refine R_seq ?_) | (with_reducible refine R_block_normal ?_)))
  refine G_blk IV_z32 ?_
  (repeat (with_reducible refine G_seq ?_))
  refine G_region ?_
  refine GL_y rfl rfl (Y_assign rfl) ?_
  refine GL_nil ?_
  (repeat (first | (with_reducible refine R_seq ?_) | (with_reducible refine R_block_normal ?_)))
  (repeat (with_reducible refine G_seq ?_))
  refine G_block ?_
  (repeat (with_reducible refine G_seq ?_))
  refine G_loop (ι := WI) (fun p => 16 - p.k) (fun p => WO (dD 16 a.val) (dD 16 b.val) p.k 0 0 p.ws) (fun p => [(4, .pointer (some ⟨b4, 0, none⟩)), (5, .pointer (some ⟨b5, 0, none⟩)), (6, .pointer (some ⟨b6, 0, none⟩)), (7, .pointer (some ⟨b7, 0, none⟩)), (8, .int .i64 (p.k : Int))]) (fun p => [⟨b7, 55, 32, IV p.ws, (0, 0)⟩, ⟨b5, 53, 16, IV (dD 16 a.val), (0, 0)⟩, ⟨b6, 53, 16, IV (dD 16 b.val), (0, 0)⟩, ⟨b4, 22, 32, List.replicate 32 (bv 0), (0, 0)⟩]) ⟨0, List.replicate 32 0⟩ ?_ (⟨by first | rfl | decide, by first | rfl | decide, by first | rfl | decide, by first | rfl | decide, by first | rfl | decide, trivial⟩) (by repeat (first | exact .nil | exact Pick.rfl' _ | exact Pick.skip (Pick.rfl' _) | exact Pick.skip (Pick.skip (Pick.rfl' _)) | (apply Pick.cons; focus (repeat (first | exact .head | apply Rem.tail))))) ?_
  · exact WO.start _ _ _
  intro p hp
  (repeat (with_reducible refine G_seq ?_))
  refine G_region ?_
  refine GL_y rfl rfl (Y_move rfl) ?_
  refine GL_y rfl rfl (Y_lssN (b := 16) rfl rfl) ?_
  refine GL_nil ?_
  (repeat (first | (with_reducible refine R_seq ?_) | (with_reducible refine R_block_normal ?_)))
  (repeat (with_reducible refine G_seq ?_))
  refine G_cond_dec rfl (fun ht21 => ?_) (fun ht21 => ?_)
  · -- yes
    (repeat (with_reducible refine G_seq ?_))
    refine G_skip ?_
    (repeat (first | (with_reducible refine R_seq ?_) | (with_reducible refine R_block_normal ?_)))
    (repeat (with_reducible refine G_seq ?_))
    refine G_block ?_
    have hi : p.k < 16 := ht21
    obtain ⟨m, hm, hm2⟩ := dD_at a.val hi
    (repeat (with_reducible refine G_seq ?_))
    refine G_region ?_
    refine GL_y rfl rfl (Y_assign rfl) ?_
    refine GL_nil ?_
    (repeat (first | (with_reducible refine R_seq ?_) | (with_reducible refine R_block_normal ?_)))
    (repeat (with_reducible refine G_seq ?_))
    refine G_block ?_
    (repeat (with_reducible refine G_seq ?_))
    refine G_loop (ι := WI) (fun q => 16 - q.k) (fun q => WO (dD 16 a.val) (dD 16 b.val) p.k m q.k q.ws) (fun q => [(4, .pointer (some ⟨b4, 0, none⟩)), (5, .pointer (some ⟨b5, 0, none⟩)), (6, .pointer (some ⟨b6, 0, none⟩)), (7, .pointer (some ⟨b7, 0, none⟩)), (8, .int .i64 (p.k : Int)), (9, .int .i64 (q.k : Int))]) (fun q => [⟨b7, 55, 32, IV q.ws, (0, 0)⟩, ⟨b5, 53, 16, IV (dD 16 a.val), (0, 0)⟩, ⟨b6, 53, 16, IV (dD 16 b.val), (0, 0)⟩, ⟨b4, 22, 32, List.replicate 32 (bv 0), (0, 0)⟩]) ⟨0, p.ws⟩ ?_ (⟨by first | rfl | decide, by first | rfl | decide, by first | rfl | decide, by first | rfl | decide, by first | rfl | decide, by first | rfl | decide, trivial⟩) (by repeat (first | exact .nil | exact Pick.rfl' _ | exact Pick.skip (Pick.rfl' _) | exact Pick.skip (Pick.skip (Pick.rfl' _)) | (apply Pick.cons; focus (repeat (first | exact .head | apply Rem.tail))))) ?_
    · exact rnd0 hp
    intro q h
    (repeat (with_reducible refine G_seq ?_))
    refine G_region ?_
    refine GL_y rfl rfl (Y_move rfl) ?_
    refine GL_y rfl rfl (Y_lssN (b := 16) rfl rfl) ?_
    refine GL_nil ?_
    (repeat (first | (with_reducible refine R_seq ?_) | (with_reducible refine R_block_normal ?_)))
    (repeat (with_reducible refine G_seq ?_))
    refine G_cond_dec rfl (fun ht25 => ?_) (fun ht25 => ?_)
    · -- yes
      (repeat (with_reducible refine G_seq ?_))
      refine G_skip ?_
      (repeat (first | (with_reducible refine R_seq ?_) | (with_reducible refine R_block_normal ?_)))
      (repeat (with_reducible refine G_seq ?_))
      refine G_block ?_
      have hk : q.k < 16 := ht25
      obtain ⟨n, hn, hn2⟩ := dD_at b.val hk
      obtain ⟨s, hs⟩ := get_of h.hl (show p.k + q.k < 32 by omega)
      obtain ⟨k1, k2, k3⟩ := h.step hi hk hn hs hm2 hn2
      (repeat (with_reducible refine G_seq ?_))
      refine G_draw [17] 18 rfl (by kernel_rfl) ?_
      refine GA_y 0 rfl (by kernel_rfl) (by kernel_rfl) (by kernel_rfl) (fun _ _ _ h => h) rfl rfl rfl (Y_move rfl) ?_
      refine GA_y 1 rfl (by kernel_rfl) (by kernel_rfl) (by kernel_rfl) (fun _ _ _ h => h) rfl rfl rfl (Y_move rfl) ?_
      refine GA_y 2 rfl (by kernel_rfl) (by kernel_rfl) (by kernel_rfl) (fun _ _ _ h => h) rfl rfl rfl (Y_addN rfl rfl (by omega)) ?_
      refine GA_y 3 rfl (by kernel_rfl) (by kernel_rfl) (by kernel_rfl) (fun _ _ _ h => h) rfl rfl rfl (Y_move rfl) ?_
      refine GA_y 4 rfl (by kernel_rfl) (by kernel_rfl) (by kernel_rfl) (fun _ _ _ h => h) rfl rfl rfl (Y_move rfl) ?_
      refine GA_y 5 rfl (by kernel_rfl) (by kernel_rfl) (by kernel_rfl) (fun _ _ _ h => h) rfl rfl rfl (Y_addN rfl rfl (by omega)) ?_
      refine GA_y 6 rfl (by kernel_rfl) (by kernel_rfl) (by kernel_rfl) (fun _ _ _ h => h) rfl rfl rfl (Y_idxA1 ar55 rfl rfl (by omega)) ?_
      refine GA_l 7 rfl (by kernel_rfl) (by kernel_rfl) (by kernel_rfl) (fun _ _ _ h => h) rfl rfl rfl rfl (Y_loadS rfl sc3 (by repeat (first | exact .head _ | apply List.Mem.tail)) (nth_IV hs)) ?_
      refine GA_y 8 rfl (by kernel_rfl) (by kernel_rfl) (by kernel_rfl) (fun _ _ _ h => h) rfl rfl rfl (Y_move rfl) ?_
      refine GA_y 9 rfl (by kernel_rfl) (by kernel_rfl) (by kernel_rfl) (fun _ _ _ h => h) rfl rfl rfl (Y_idxA1 ar53 rfl rfl (by omega)) ?_
      refine GA_l 10 rfl (by kernel_rfl) (by kernel_rfl) (by kernel_rfl) (fun _ _ _ h => h) rfl rfl rfl rfl (Y_loadS rfl sc3 (by repeat (first | exact .head _ | apply List.Mem.tail)) (nth_IV hm)) ?_
      refine GA_y 11 rfl (by kernel_rfl) (by kernel_rfl) (by kernel_rfl) (fun _ _ _ h => h) rfl rfl rfl (Y_move rfl) ?_
      refine GA_y 12 rfl (by kernel_rfl) (by kernel_rfl) (by kernel_rfl) (fun _ _ _ h => h) rfl rfl rfl (Y_idxA1 ar53 rfl rfl (by omega)) ?_
      refine GA_l 13 rfl (by kernel_rfl) (by kernel_rfl) (by kernel_rfl) (fun _ _ _ h => h) rfl rfl rfl rfl (Y_loadS rfl sc3 (by repeat (first | exact .head _ | apply List.Mem.tail)) (nth_IV hn)) ?_
      refine GA_y 14 rfl (by kernel_rfl) (by kernel_rfl) (by kernel_rfl) (fun _ _ _ h => h) rfl rfl rfl (Y_mulN rfl rfl k3) ?_
      refine GA_y 15 rfl (by kernel_rfl) (by kernel_rfl) (by kernel_rfl) (fun _ _ _ h => h) rfl rfl rfl (Y_addN rfl rfl k2) ?_
      refine GA_y 16 rfl (by kernel_rfl) (by kernel_rfl) (by kernel_rfl) (fun _ _ _ h => h) rfl rfl rfl (Y_idxA1 ar55 rfl rfl (by omega)) ?_
      refine GA_one 17 (by kernel_rfl) ?_
      refine GO_s rfl rfl rfl (S_sc rfl sc3 rfl rfl (by repeat (first | exact .head | apply Rem.tail)) (setL_IV (by have := h.hl; omega) _)) ?_
      refine GA_done (by kernel_rfl) ?_
      (repeat (first | (with_reducible refine R_seq ?_) | (with_reducible refine R_block_normal ?_)))
      (repeat (with_reducible refine G_seq ?_))
      refine G_region ?_
      refine GL_y rfl rfl (Y_move rfl) ?_
      refine GL_y rfl rfl (Y_addN (b := 1) rfl rfl (by first | omega | decide)) ?_
      refine GL_y rfl rfl (Y_assign rfl) ?_
      refine GL_nil ?_
      (repeat (first | (with_reducible refine R_seq ?_) | (with_reducible refine R_block_normal ?_)))
      (repeat (with_reducible refine R_block_normal ?_))
      refine R_fam ⟨q.k + 1, q.ws.set (p.k + q.k) (s + m * n)⟩ ?_ (⟨by first | rfl | decide, by first | rfl | decide, by first | rfl | decide, by first | rfl | decide, by first | rfl | decide, by first | rfl | decide, trivial⟩) (by repeat (first | exact .nil | exact Pick.rfl' _ | exact Pick.skip (Pick.rfl' _) | exact Pick.skip (Pick.skip (Pick.rfl' _)) | (apply Pick.cons; focus (repeat (first | exact .head | apply Rem.tail)))))
      exact ⟨k1, by simp only; omega⟩
    · -- no
      (repeat (with_reducible refine G_seq ?_))
      refine G_exit ?_
      (repeat (first | (with_reducible refine R_then_exit ?_) | (with_reducible refine R_block_exit ?_) | (with_reducible refine R_block_other (by decide) ?_)))
      (repeat (first | (with_reducible refine R_seq ?_) | (with_reducible refine R_block_normal ?_)))
      have he : q.k = 16 := by have h1 : ¬ q.k < 16 := ht25; have h2 := h.hk; omega
      obtain ⟨k, ws⟩ := q
      simp only at he
      subst he
      (repeat (with_reducible refine G_seq ?_))
      refine G_region ?_
      refine GL_y rfl rfl (Y_move rfl) ?_
      refine GL_y rfl rfl (Y_addN (b := 1) rfl rfl (by first | omega | decide)) ?_
      refine GL_y rfl rfl (Y_assign rfl) ?_
      refine GL_nil ?_
      (repeat (first | (with_reducible refine R_seq ?_) | (with_reducible refine R_block_normal ?_)))
      (repeat (with_reducible refine R_block_normal ?_))
      refine R_fam ⟨p.k + 1, ws⟩ ?_ (⟨by first | rfl | decide, by first | rfl | decide, by first | rfl | decide, by first | rfl | decide, by first | rfl | decide, trivial⟩) (by repeat (first | exact .nil | exact Pick.rfl' _ | exact Pick.skip (Pick.rfl' _) | exact Pick.skip (Pick.skip (Pick.rfl' _)) | (apply Pick.cons; focus (repeat (first | exact .head | apply Rem.tail)))))
      exact ⟨WO.row h hi hm (dD_len _ _), by simp only; omega⟩
  · -- no
    (repeat (with_reducible refine G_seq ?_))
    refine G_exit ?_
    (repeat (first | (with_reducible refine R_then_exit ?_) | (with_reducible refine R_block_exit ?_) | (with_reducible refine R_block_other (by decide) ?_)))
    (repeat (first | (with_reducible refine R_seq ?_) | (with_reducible refine R_block_normal ?_)))
    have he : p.k = 16 := by have h1 : ¬ p.k < 16 := ht21; have h2 := hp.hi; omega
    obtain ⟨k, ws⟩ := p
    simp only at he
    subst he
    have hW : WO (dD 16 a.val) (dD 16 b.val) 16 0 0 ws := hp
    clear hp
    have hlo := lo_bound hW
    (repeat (with_reducible refine G_seq ?_))
    refine G_region ?_
    refine GL_w rfl rfl (W_alloc zr56 fun b10 => ?_)
    refine GL_nil ?_
    (repeat (first | (with_reducible refine R_seq ?_) | (with_reducible refine R_block_normal ?_)))
    refine G_blk IV_z17 ?_
    (repeat (with_reducible refine G_seq ?_))
    refine G_region ?_
    refine GL_y rfl rfl (Y_assign rfl) ?_
    refine GL_nil ?_
    (repeat (first | (with_reducible refine R_seq ?_) | (with_reducible refine R_block_normal ?_)))
    (repeat (with_reducible refine G_seq ?_))
    refine G_block ?_
    (repeat (with_reducible refine G_seq ?_))
    refine G_loop (ι := WI) (fun p => 16 - p.k) (fun p => LO ws p.k p.ws) (fun p => [(4, .pointer (some ⟨b4, 0, none⟩)), (7, .pointer (some ⟨b7, 0, none⟩)), (10, .pointer (some ⟨b10, 0, none⟩)), (11, .int .i64 (p.k : Int))]) (fun p => [⟨b10, 56, 17, IV p.ws, (0, 0)⟩, ⟨b7, 55, 32, IV ws, (0, 0)⟩, ⟨b4, 22, 32, List.replicate 32 (bv 0), (0, 0)⟩]) ⟨0, List.replicate 17 0⟩ ?_ (⟨by first | rfl | decide, by first | rfl | decide, by first | rfl | decide, by first | rfl | decide, trivial⟩) (by repeat (first | exact .nil | exact Pick.rfl' _ | exact Pick.skip (Pick.rfl' _) | exact Pick.skip (Pick.skip (Pick.rfl' _)) | (apply Pick.cons; focus (repeat (first | exact .head | apply Rem.tail))))) ?_
    · exact LO.start ws
    intro p h
    (repeat (with_reducible refine G_seq ?_))
    refine G_region ?_
    refine GL_y rfl rfl (Y_move rfl) ?_
    refine GL_y rfl rfl (Y_lssN (b := 16) rfl rfl) ?_
    refine GL_nil ?_
    (repeat (first | (with_reducible refine R_seq ?_) | (with_reducible refine R_block_normal ?_)))
    (repeat (with_reducible refine G_seq ?_))
    refine G_cond_dec rfl (fun ht46 => ?_) (fun ht46 => ?_)
    · -- yes
      (repeat (with_reducible refine G_seq ?_))
      refine G_skip ?_
      (repeat (first | (with_reducible refine R_seq ?_) | (with_reducible refine R_block_normal ?_)))
      (repeat (with_reducible refine G_seq ?_))
      refine G_block ?_
      have hi : p.k < 16 := ht46
      obtain ⟨x, ha⟩ := get_of hW.hl (show p.k < 32 by omega)
      obtain ⟨y, hc⟩ := get_of hW.hl (show 16 + p.k < 32 by omega)
      have hx := mem_le hlo ha
      have hy := mem_le hlo hc
      (repeat (with_reducible refine G_seq ?_))
      refine G_draw [11] 12 rfl (by kernel_rfl) ?_
      refine GA_y 0 rfl (by kernel_rfl) (by kernel_rfl) (by kernel_rfl) (fun _ _ _ h => h) rfl rfl rfl (Y_move rfl) ?_
      refine GA_y 1 rfl (by kernel_rfl) (by kernel_rfl) (by kernel_rfl) (fun _ _ _ h => h) rfl rfl rfl (Y_move rfl) ?_
      refine GA_y 2 rfl (by kernel_rfl) (by kernel_rfl) (by kernel_rfl) (fun _ _ _ h => h) rfl rfl rfl (Y_idxA1 ar55 rfl rfl (by omega)) ?_
      refine GA_l 3 rfl (by kernel_rfl) (by kernel_rfl) (by kernel_rfl) (fun _ _ _ h => h) rfl rfl rfl rfl (Y_loadS rfl sc3 (by repeat (first | exact .head _ | apply List.Mem.tail)) (nth_IV ha)) ?_
      refine GA_y 4 rfl (by kernel_rfl) (by kernel_rfl) (by kernel_rfl) (fun _ _ _ h => h) rfl rfl rfl (Y_move rfl) ?_
      refine GA_y 5 rfl (by kernel_rfl) (by kernel_rfl) (by kernel_rfl) (fun _ _ _ h => h) rfl rfl rfl (Y_addN (a := 16) rfl rfl (by omega)) ?_
      refine GA_y 6 rfl (by kernel_rfl) (by kernel_rfl) (by kernel_rfl) (fun _ _ _ h => h) rfl rfl rfl (Y_idxA1 ar55 rfl rfl (by omega)) ?_
      refine GA_l 7 rfl (by kernel_rfl) (by kernel_rfl) (by kernel_rfl) (fun _ _ _ h => h) rfl rfl rfl rfl (Y_loadS rfl sc3 (by repeat (first | exact .head _ | apply List.Mem.tail)) (nth_IV hc)) ?_
      refine GA_y 8 rfl (by kernel_rfl) (by kernel_rfl) (by kernel_rfl) (fun _ _ _ h => h) rfl rfl rfl (Y_mulN (a := 38) rfl rfl (by omega)) ?_
      refine GA_y 9 rfl (by kernel_rfl) (by kernel_rfl) (by kernel_rfl) (fun _ _ _ h => h) rfl rfl rfl (Y_addN rfl rfl (by omega)) ?_
      refine GA_y 10 rfl (by kernel_rfl) (by kernel_rfl) (by kernel_rfl) (fun _ _ _ h => h) rfl rfl rfl (Y_idxA1 ar56 rfl rfl (by omega)) ?_
      refine GA_one 11 (by kernel_rfl) ?_
      refine GO_s rfl rfl rfl (S_sc rfl sc3 rfl rfl (by repeat (first | exact .head | apply Rem.tail)) (setL_IV (by have := h.hl; omega) _)) ?_
      refine GA_done (by kernel_rfl) ?_
      (repeat (first | (with_reducible refine R_seq ?_) | (with_reducible refine R_block_normal ?_)))
      (repeat (with_reducible refine G_seq ?_))
      refine G_region ?_
      refine GL_y rfl rfl (Y_move rfl) ?_
      refine GL_y rfl rfl (Y_addN (b := 1) rfl rfl (by first | omega | decide)) ?_
      refine GL_y rfl rfl (Y_assign rfl) ?_
      refine GL_nil ?_
      (repeat (first | (with_reducible refine R_seq ?_) | (with_reducible refine R_block_normal ?_)))
      (repeat (with_reducible refine R_block_normal ?_))
      refine R_fam ⟨p.k + 1, p.ws.set p.k (x + 38 * y)⟩ ?_ (⟨by first | rfl | decide, by first | rfl | decide, by first | rfl | decide, by first | rfl | decide, trivial⟩) (by repeat (first | exact .nil | exact Pick.rfl' _ | exact Pick.skip (Pick.rfl' _) | exact Pick.skip (Pick.skip (Pick.rfl' _)) | (apply Pick.cons; focus (repeat (first | exact .head | apply Rem.tail)))))
      exact ⟨h.step hi ha hc hx hy, by simp only; omega⟩
    · -- no
      (repeat (with_reducible refine G_seq ?_))
      refine G_exit ?_
      (repeat (first | (with_reducible refine R_then_exit ?_) | (with_reducible refine R_block_exit ?_) | (with_reducible refine R_block_other (by decide) ?_)))
      (repeat (first | (with_reducible refine R_seq ?_) | (with_reducible refine R_block_normal ?_)))
      have he : p.k = 16 := by have h1 : ¬ p.k < 16 := ht46; have h2 := h.hi; omega
      obtain ⟨k, ls⟩ := p
      simp only at he
      subst he
      have hL : LO ws 16 ls := h
      clear h
      (repeat (with_reducible refine G_seq ?_))
      refine G_region ?_
      refine GL_y rfl rfl (Y_assign rfl) ?_
      refine GL_nil ?_
      (repeat (first | (with_reducible refine R_seq ?_) | (with_reducible refine R_block_normal ?_)))
      (repeat (with_reducible refine G_seq ?_))
      refine G_block ?_
      (repeat (with_reducible refine G_seq ?_))
      refine G_loop (ι := WI) (fun p => 3 - p.k) (fun p => PO p.k (vD ls) p.ws) (fun p => [(4, .pointer (some ⟨b4, 0, none⟩)), (10, .pointer (some ⟨b10, 0, none⟩)), (12, .int .i64 (p.k : Int))]) (fun p => [⟨b10, 56, 17, IV p.ws, (0, 0)⟩, ⟨b4, 22, 32, List.replicate 32 (bv 0), (0, 0)⟩]) ⟨0, ls⟩ ?_ (⟨by first | rfl | decide, by first | rfl | decide, by first | rfl | decide, trivial⟩) (by repeat (first | exact .nil | exact Pick.rfl' _ | exact Pick.skip (Pick.rfl' _) | exact Pick.skip (Pick.skip (Pick.rfl' _)) | (apply Pick.cons; focus (repeat (first | exact .head | apply Rem.tail))))) ?_
      · exact PO.start hL
      intro p hp
      (repeat (with_reducible refine G_seq ?_))
      refine G_region ?_
      refine GL_y rfl rfl (Y_move rfl) ?_
      refine GL_y rfl rfl (Y_lssN (b := 3) rfl rfl) ?_
      refine GL_nil ?_
      (repeat (first | (with_reducible refine R_seq ?_) | (with_reducible refine R_block_normal ?_)))
      (repeat (with_reducible refine G_seq ?_))
      refine G_cond_dec rfl (fun ht61 => ?_) (fun ht61 => ?_)
      · -- yes
        (repeat (with_reducible refine G_seq ?_))
        refine G_skip ?_
        (repeat (first | (with_reducible refine R_seq ?_) | (with_reducible refine R_block_normal ?_)))
        (repeat (with_reducible refine G_seq ?_))
        refine G_block ?_
        have hn3 : p.k < 3 := ht61
        (repeat (with_reducible refine G_seq ?_))
        refine G_region ?_
        refine GL_y rfl rfl (Y_assign rfl) ?_
        refine GL_nil ?_
        (repeat (first | (with_reducible refine R_seq ?_) | (with_reducible refine R_block_normal ?_)))
        (repeat (with_reducible refine G_seq ?_))
        refine G_block ?_
        (repeat (with_reducible refine G_seq ?_))
        refine G_loop (ι := WI) (fun q => 16 - q.k) (fun q => CO (vD p.ws) q.k q.ws) (fun q => [(4, .pointer (some ⟨b4, 0, none⟩)), (10, .pointer (some ⟨b10, 0, none⟩)), (12, .int .i64 (p.k : Int)), (13, .int .i64 (q.k : Int))]) (fun q => [⟨b10, 56, 17, IV q.ws, (0, 0)⟩, ⟨b4, 22, 32, List.replicate 32 (bv 0), (0, 0)⟩]) ⟨0, p.ws⟩ ?_ (⟨by first | rfl | decide, by first | rfl | decide, by first | rfl | decide, by first | rfl | decide, trivial⟩) (by repeat (first | exact .nil | exact Pick.rfl' _ | exact Pick.skip (Pick.rfl' _) | exact Pick.skip (Pick.skip (Pick.rfl' _)) | (apply Pick.cons; focus (repeat (first | exact .head | apply Rem.tail))))) ?_
        · exact CO.start hp.hl hp.hb
        intro q h
        (repeat (with_reducible refine G_seq ?_))
        refine G_region ?_
        refine GL_y rfl rfl (Y_move rfl) ?_
        refine GL_y rfl rfl (Y_lssN (b := 16) rfl rfl) ?_
        refine GL_nil ?_
        (repeat (first | (with_reducible refine R_seq ?_) | (with_reducible refine R_block_normal ?_)))
        (repeat (with_reducible refine G_seq ?_))
        refine G_cond_dec rfl (fun ht65 => ?_) (fun ht65 => ?_)
        · -- yes
          (repeat (with_reducible refine G_seq ?_))
          refine G_skip ?_
          (repeat (first | (with_reducible refine R_seq ?_) | (with_reducible refine R_block_normal ?_)))
          (repeat (with_reducible refine G_seq ?_))
          refine G_block ?_
          have hi : q.k < 16 := ht65
          obtain ⟨x, ha⟩ := get_of h.hl (show q.k < 17 by omega)
          obtain ⟨y, hc⟩ := get_of h.hl (show q.k + 1 < 17 by omega)
          have hx := h.hc x ha
          have hy := h.hb _ y (by omega) hc
          (repeat (with_reducible refine G_seq ?_))
          refine G_draw [12] 13 rfl (by kernel_rfl) ?_
          refine GA_y 0 rfl (by kernel_rfl) (by kernel_rfl) (by kernel_rfl) (fun _ _ _ h => h) rfl rfl rfl (Y_move rfl) ?_
          refine GA_y 1 rfl (by kernel_rfl) (by kernel_rfl) (by kernel_rfl) (fun _ _ _ h => h) rfl rfl rfl (Y_addN (b := 1) rfl rfl (by first | omega | decide)) ?_
          refine GA_y 2 rfl (by kernel_rfl) (by kernel_rfl) (by kernel_rfl) (fun _ _ _ h => h) rfl rfl rfl (Y_move rfl) ?_
          refine GA_y 3 rfl (by kernel_rfl) (by kernel_rfl) (by kernel_rfl) (fun _ _ _ h => h) rfl rfl rfl (Y_addN (b := 1) rfl rfl (by first | omega | decide)) ?_
          refine GA_y 4 rfl (by kernel_rfl) (by kernel_rfl) (by kernel_rfl) (fun _ _ _ h => h) rfl rfl rfl (Y_idxA1 ar56 rfl rfl (by omega)) ?_
          refine GA_l 5 rfl (by kernel_rfl) (by kernel_rfl) (by kernel_rfl) (fun _ _ _ h => h) rfl rfl rfl rfl (Y_loadS rfl sc3 (by repeat (first | exact .head _ | apply List.Mem.tail)) (nth_IV hc)) ?_
          refine GA_y 6 rfl (by kernel_rfl) (by kernel_rfl) (by kernel_rfl) (fun _ _ _ h => h) rfl rfl rfl (Y_move rfl) ?_
          refine GA_y 7 rfl (by kernel_rfl) (by kernel_rfl) (by kernel_rfl) (fun _ _ _ h => h) rfl rfl rfl (Y_idxA1 ar56 rfl rfl (by omega)) ?_
          refine GA_l 8 rfl (by kernel_rfl) (by kernel_rfl) (by kernel_rfl) (fun _ _ _ h => h) rfl rfl rfl rfl (Y_loadS rfl sc3 (by repeat (first | exact .head _ | apply List.Mem.tail)) (nth_IV ha)) ?_
          refine GA_y 9 rfl (by kernel_rfl) (by kernel_rfl) (by kernel_rfl) (fun _ _ _ h => h) rfl rfl rfl (Y_quoN (b := 65536) rfl rfl (by decide) (by omega)) ?_
          refine GA_y 10 rfl (by kernel_rfl) (by kernel_rfl) (by kernel_rfl) (fun _ _ _ h => h) rfl rfl rfl (Y_addN rfl rfl (by omega)) ?_
          refine GA_y 11 rfl (by kernel_rfl) (by kernel_rfl) (by kernel_rfl) (fun _ _ _ h => h) rfl rfl rfl (Y_idxA1 ar56 rfl rfl (by omega)) ?_
          refine GA_one 12 (by kernel_rfl) ?_
          refine GO_s rfl rfl rfl (S_sc rfl sc3 rfl rfl (by repeat (first | exact .head | apply Rem.tail)) (setL_IV (by have := h.hl; omega) _)) ?_
          refine GA_done (by kernel_rfl) ?_
          (repeat (first | (with_reducible refine R_seq ?_) | (with_reducible refine R_block_normal ?_)))
          (repeat (with_reducible refine G_seq ?_))
          refine G_region ?_
          refine GL_y rfl rfl (Y_move rfl) ?_
          refine GL_y rfl rfl (Y_move rfl) ?_
          refine GL_y rfl rfl (Y_idxA1 ar56 rfl rfl (by omega)) ?_
          refine GL_y rfl rfl (Y_loadS rfl sc3 (by repeat (first | exact .head _ | apply List.Mem.tail)) (nth_IV (set_ne ha))) ?_
          refine GL_y rfl rfl (Y_remN (b := 65536) rfl rfl (by decide)) ?_
          refine GL_y rfl rfl (Y_idxA1 ar56 rfl rfl (by omega)) ?_
          refine GL_s rfl (S_sc rfl sc3 rfl rfl (by repeat (first | exact .head | apply Rem.tail)) (setL_IV (by rw [List.length_set]; have := h.hl; omega) _)) ?_
          refine GL_nil ?_
          (repeat (first | (with_reducible refine R_seq ?_) | (with_reducible refine R_block_normal ?_)))
          (repeat (with_reducible refine G_seq ?_))
          refine G_region ?_
          refine GL_y rfl rfl (Y_move rfl) ?_
          refine GL_y rfl rfl (Y_addN (b := 1) rfl rfl (by first | omega | decide)) ?_
          refine GL_y rfl rfl (Y_assign rfl) ?_
          refine GL_nil ?_
          (repeat (first | (with_reducible refine R_seq ?_) | (with_reducible refine R_block_normal ?_)))
          (repeat (with_reducible refine R_block_normal ?_))
          refine R_fam ⟨q.k + 1, (q.ws.set (q.k + 1) (y + x / 65536)).set q.k (x % 65536)⟩ ?_ (⟨by first | rfl | decide, by first | rfl | decide, by first | rfl | decide, by first | rfl | decide, trivial⟩) (by repeat (first | exact .nil | exact Pick.rfl' _ | exact Pick.skip (Pick.rfl' _) | exact Pick.skip (Pick.skip (Pick.rfl' _)) | (apply Pick.cons; focus (repeat (first | exact .head | apply Rem.tail)))))
          exact ⟨h.step hi ha hc, by simp only; omega⟩
        · -- no
          (repeat (with_reducible refine G_seq ?_))
          refine G_exit ?_
          (repeat (first | (with_reducible refine R_then_exit ?_) | (with_reducible refine R_block_exit ?_) | (with_reducible refine R_block_other (by decide) ?_)))
          (repeat (first | (with_reducible refine R_seq ?_) | (with_reducible refine R_block_normal ?_)))
          have he : q.k = 16 := by have h1 : ¬ q.k < 16 := ht65; have h2 := h.hi; omega
          obtain ⟨k, os⟩ := q
          simp only at he
          subst he
          have h : CO (vD p.ws) 16 os := h
          obtain ⟨x, ha⟩ := get_of h.hl (show 0 < 17 by decide)
          obtain ⟨y, ht⟩ := get_of h.hl (show 16 < 17 by decide)
          obtain ⟨k1, k2, k3⟩ := hp.next hn3 h ha ht
          simp only [w16] at k3
          (repeat (with_reducible refine G_seq ?_))
          refine G_region ?_
          refine GL_y rfl rfl (Y_idxA1 (j := 0) ar56 rfl rfl (by omega)) ?_
          refine GL_y rfl rfl (Y_loadS rfl sc3 (by repeat (first | exact .head _ | apply List.Mem.tail)) (nth_IV (i := 0) ha)) ?_
          refine GL_y rfl rfl (Y_idxA1 (j := 16) ar56 rfl rfl (by omega)) ?_
          refine GL_y rfl rfl (Y_loadS rfl sc3 (by repeat (first | exact .head _ | apply List.Mem.tail)) (nth_IV (i := 16) ht)) ?_
          refine GL_y rfl rfl (Y_mulN (a := 38) rfl rfl (by omega)) ?_
          refine GL_y rfl rfl (Y_addN rfl rfl (by omega)) ?_
          refine GL_y rfl rfl (Y_idxA1 (j := 0) ar56 rfl rfl (by omega)) ?_
          refine GL_s rfl (S_sc rfl sc3 rfl rfl (by repeat (first | exact .head | apply Rem.tail)) (setL_IV (by show 0 < os.length; have := h.hl; omega) _)) ?_
          refine GL_nil ?_
          (repeat (first | (with_reducible refine R_seq ?_) | (with_reducible refine R_block_normal ?_)))
          (repeat (with_reducible refine G_seq ?_))
          refine G_region ?_
          refine GL_y rfl rfl (Y_idxA1 (j := 16) ar56 rfl rfl (by omega)) ?_
          refine GL_s rfl (S_sc rfl sc3 rfl rfl (by repeat (first | exact .head | apply Rem.tail)) (setL_IV (i := 16) (by show 16 < (os.set 0 (x + 38 * y)).length; rw [List.length_set]; have := h.hl; omega) 0)) ?_
          refine GL_nil ?_
          (repeat (first | (with_reducible refine R_seq ?_) | (with_reducible refine R_block_normal ?_)))
          (repeat (with_reducible refine G_seq ?_))
          refine G_region ?_
          refine GL_y rfl rfl (Y_move rfl) ?_
          refine GL_y rfl rfl (Y_addN (b := 1) rfl rfl (by first | omega | decide)) ?_
          refine GL_y rfl rfl (Y_assign rfl) ?_
          refine GL_nil ?_
          (repeat (first | (with_reducible refine R_seq ?_) | (with_reducible refine R_block_normal ?_)))
          (repeat (with_reducible refine R_block_normal ?_))
          refine R_fam ⟨p.k + 1, (os.set 0 (x + 38 * y)).set 16 0⟩ ?_ (⟨by first | rfl | decide, by first | rfl | decide, by first | rfl | decide, trivial⟩) (by repeat (first | exact .nil | exact Pick.rfl' _ | exact Pick.skip (Pick.rfl' _) | exact Pick.skip (Pick.skip (Pick.rfl' _)) | (apply Pick.cons; focus (repeat (first | exact .head | apply Rem.tail)))))
          exact ⟨k1, by simp only; omega⟩
      · -- no
        (repeat (with_reducible refine G_seq ?_))
        refine G_exit ?_
        (repeat (first | (with_reducible refine R_then_exit ?_) | (with_reducible refine R_block_exit ?_) | (with_reducible refine R_block_other (by decide) ?_)))
        (repeat (first | (with_reducible refine R_seq ?_) | (with_reducible refine R_block_normal ?_)))
        have he : p.k = 3 := by have h1 : ¬ p.k < 3 := ht61; have h2 := hp.hn; omega
        obtain ⟨k, q⟩ := p
        simp only at he
        subst he
        have hP : PO 3 (vD ls) q := hp
        clear hp
        obtain ⟨hd1, hd2⟩ := hP.hd rfl
        (repeat (with_reducible refine G_seq ?_))
        refine G_region ?_
        refine GL_y rfl rfl (Y_assign rfl) ?_
        refine GL_nil ?_
        (repeat (first | (with_reducible refine R_seq ?_) | (with_reducible refine R_block_normal ?_)))
        (repeat (with_reducible refine G_seq ?_))
        refine G_region ?_
        refine GL_y rfl rfl (Y_assign rfl) ?_
        refine GL_nil ?_
        (repeat (first | (with_reducible refine R_seq ?_) | (with_reducible refine R_block_normal ?_)))
        (repeat (with_reducible refine G_seq ?_))
        refine G_block ?_
        (repeat (with_reducible refine G_seq ?_))
        refine G_loop (ι := QI) (fun p => 16 - p.i) (fun p => OB p.os p.ao p.c p.N ∧ p.i ≤ 16 ∧ p.os.length = 2 * p.i ∧ leN p.os = vD (q.take p.i)) (fun p => [(4, .pointer (some ⟨b4, 0, none⟩)), (10, .pointer (some ⟨b10, 0, none⟩)), (14, .slice p.ao p.os.length p.c), (15, .int .i64 (p.i : Int))]) (fun p => (⟨b10, 56, 17, IV q, (0, 0)⟩ :: ⟨b4, 22, 32, List.replicate 32 (bv 0), (0, 0)⟩ :: p.N)) ⟨0, [], none, 0, []⟩ ?_ (⟨by first | rfl | decide, by first | rfl | decide, by first | rfl | decide, by first | rfl | decide, trivial⟩) (by repeat (first | exact .nil | exact Pick.rfl' _ | exact Pick.skip (Pick.rfl' _) | exact Pick.skip (Pick.skip (Pick.rfl' _)) | (apply Pick.cons; focus (repeat (first | exact .head | apply Rem.tail))))) ?_
        · exact ⟨.none rfl, by decide, rfl, by simp [leN, vD]⟩
        intro p h
        (repeat (with_reducible refine G_seq ?_))
        refine G_region ?_
        refine GL_y rfl rfl (Y_move rfl) ?_
        refine GL_y rfl rfl (Y_lssN (b := 16) rfl rfl) ?_
        refine GL_nil ?_
        (repeat (first | (with_reducible refine R_seq ?_) | (with_reducible refine R_block_normal ?_)))
        (repeat (with_reducible refine G_seq ?_))
        refine G_cond_dec rfl (fun ht95 => ?_) (fun ht95 => ?_)
        · -- yes
          (repeat (with_reducible refine G_seq ?_))
          refine G_skip ?_
          (repeat (first | (with_reducible refine R_seq ?_) | (with_reducible refine R_block_normal ?_)))
          (repeat (with_reducible refine G_seq ?_))
          refine G_block ?_
          have hi : p.i < 16 := ht95
          obtain ⟨x, ha⟩ := get_of hP.hl (show p.i < 17 by omega)
          have ha2 := hd1 _ _ hi ha
          have hl1 := h.2.2.1
          (repeat (with_reducible refine G_seq ?_))
          refine G_drawB ([⟨b10, 56, 17, IV q, (0, 0)⟩]) 14 rfl (by kernel_rfl) ⟨_, by repeat (first | exact .nil | exact Pick.rfl' _ | exact Pick.skip (Pick.rfl' _) | exact Pick.skip (Pick.skip (Pick.rfl' _)) | (apply Pick.cons; focus (repeat (first | exact .head | apply Rem.tail))))⟩ ?_
          refine GB_y 0 rfl (by kernel_rfl) (by kernel_rfl) (by kernel_rfl) (fun _ _ _ h => h) rfl rfl (Y_move rfl) ?_
          refine GB_y 1 rfl (by kernel_rfl) (by kernel_rfl) (by kernel_rfl) (fun _ _ _ h => h) rfl rfl (Y_move rfl) ?_
          refine GB_y 2 rfl (by kernel_rfl) (by kernel_rfl) (by kernel_rfl) (fun _ _ _ h => h) rfl rfl (Y_idxA1 ar56 rfl rfl (by omega)) ?_
          refine GB_l 3 rfl (by kernel_rfl) (by kernel_rfl) (by kernel_rfl) (fun _ _ _ h => h) rfl rfl (Y_loadS rfl sc3 (by repeat (first | exact .head _ | apply List.Mem.tail)) (nth_IV ha)) ?_
          refine GB_y 4 rfl (by kernel_rfl) (by kernel_rfl) (by kernel_rfl) (fun _ _ _ h => h) rfl rfl (Y_remN (b := 256) rfl rfl (by decide)) ?_
          refine GB_y 5 rfl (by kernel_rfl) (by kernel_rfl) (by kernel_rfl) (fun _ _ _ h => h) rfl rfl (Y_byteN Try.underlying3 Try.underlying5 rfl) ?_
          refine GB_y 6 rfl (by kernel_rfl) (by kernel_rfl) (by kernel_rfl) (fun _ _ _ h => h) rfl rfl (Y_move rfl) ?_
          refine GB_y 7 rfl (by kernel_rfl) (by kernel_rfl) (by kernel_rfl) (fun _ _ _ h => h) rfl rfl (Y_idxA1 ar56 rfl rfl (by omega)) ?_
          refine GB_l 8 rfl (by kernel_rfl) (by kernel_rfl) (by kernel_rfl) (fun _ _ _ h => h) rfl rfl (Y_loadS rfl sc3 (by repeat (first | exact .head _ | apply List.Mem.tail)) (nth_IV ha)) ?_
          refine GB_y 9 rfl (by kernel_rfl) (by kernel_rfl) (by kernel_rfl) (fun _ _ _ h => h) rfl rfl (Y_quoN (b := 256) rfl rfl (by decide) (by simp only [w16] at ha2; omega)) ?_
          refine GB_y 10 rfl (by kernel_rfl) (by kernel_rfl) (by kernel_rfl) (fun _ _ _ h => h) rfl rfl (Y_byteN Try.underlying3 Try.underlying5 rfl) ?_
          refine GB_one 11 (by kernel_rfl) ?_
          refine HO_w rfl rfl rfl (W_bs (B [UInt8.ofNat (x % 256), UInt8.ofNat (x / 256)]) Try.underlying48 te8 (all_B _) (by simp [B]) (by simp [B]) rfl rfl fun b109 => ⟨⟨_, by repeat (first | exact .nil | exact Pick.rfl' _ | exact Pick.skip (Pick.rfl' _) | exact Pick.skip (Pick.skip (Pick.rfl' _)) | (apply Pick.cons; focus (repeat (first | exact .head | apply Rem.tail))))⟩, ?_⟩)
          refine GB_one 12 (by kernel_rfl) ?_
          refine HO_w rfl rfl rfl (W_appOB [UInt8.ofNat (x % 256), UInt8.ofNat (x / 256)] h.1 (by repeat (first | exact Pick.rfl' _ | apply Pick.skip)) rfl rfl rfl rfl (by simp) (fun w s => SlAt.mk' (s.cells (by repeat (first | exact .head _ | apply List.Mem.tail)))) (by simp only [List.length_cons, List.length_nil]; omega) fun b110 c110 h110 => ⟨⟨_, by repeat (first | exact .nil | exact Pick.rfl' _ | exact Pick.skip (Pick.rfl' _) | exact Pick.skip (Pick.skip (Pick.rfl' _)) | (apply Pick.cons; focus (repeat (first | exact .head | apply Rem.tail))))⟩, ?_⟩)
          refine GB_y 13 rfl (by kernel_rfl) (by kernel_rfl) (by kernel_rfl) (fun _ _ _ h => h) rfl rfl (Y_assign rfl) ?_
          refine GB_done (by kernel_rfl) ?_
          (repeat (first | (with_reducible refine R_seq ?_) | (with_reducible refine R_block_normal ?_)))
          (repeat (with_reducible refine G_seq ?_))
          refine G_region ?_
          refine GL_y rfl rfl (Y_move rfl) ?_
          refine GL_y rfl rfl (Y_addN (b := 1) rfl rfl (by first | omega | decide)) ?_
          refine GL_y rfl rfl (Y_assign rfl) ?_
          refine GL_nil ?_
          (repeat (first | (with_reducible refine R_seq ?_) | (with_reducible refine R_block_normal ?_)))
          (repeat (with_reducible refine R_block_normal ?_))
          refine R_fam ⟨p.i + 1, p.os ++ [UInt8.ofNat (x % 256), UInt8.ofNat (x / 256)], some ⟨b110, 0, none⟩, c110, [⟨b110, 5, c110 * 1, B (p.os ++ [UInt8.ofNat (x % 256), UInt8.ofNat (x / 256)]), (0, 0)⟩]⟩ ?_ (⟨by first | rfl | decide, by first | rfl | decide, by first | rfl | decide, by first | rfl | decide, trivial⟩) (by repeat (first | exact .nil | exact Pick.rfl' _ | exact Pick.skip (Pick.rfl' _) | exact Pick.skip (Pick.skip (Pick.rfl' _)) | (apply Pick.cons; focus (repeat (first | exact .head | apply Rem.tail)))))
          exact ⟨⟨.some h110, by simp only; omega, by simp only [List.length_append, List.length_cons, List.length_nil]; omega, out_step h.2.2.2 hl1 ha ha2⟩, by simp only; omega⟩
        · -- no
          (repeat (with_reducible refine G_seq ?_))
          refine G_exit ?_
          (repeat (first | (with_reducible refine R_then_exit ?_) | (with_reducible refine R_block_exit ?_) | (with_reducible refine R_block_other (by decide) ?_)))
          (repeat (first | (with_reducible refine R_seq ?_) | (with_reducible refine R_block_normal ?_)))
          have he : p.i = 16 := by have h1 : ¬ p.i < 16 := ht95; have h2 := h.2.1; omega
          obtain ⟨e1, e2⟩ := prod_end (F_lt a) (F_lt b) hW hL hP (by rw [← he]; exact h.2.2.2)
          have hl1 := h.2.2.1
          (repeat (with_reducible refine G_seq ?_))
          refine G_region ?_
          refine GL_y rfl rfl (Y_move rfl) ?_
          refine GL_call rfl rfl rfl rfl Try.call35 .nil (fun w hw => round_is (v := (a * b).val) (OB.at h.1 (by repeat (first | exact Pick.rfl' _ | apply Pick.skip)) hw) rfl (OB.cap h.1) (by omega) e1 (by rw [e2]; exact (mul_val a b).symm)) ?_
          rintro _ N8 ⟨rs8, ao8, c8, rfl, hO8, hv8, hz8⟩
          refine GL_call rfl rfl rfl rfl Try.call34 .nil (fun w hw => full_is (OB.at hO8 (Pick.pre _ _) hw) rfl (NZ.len32 hz8 hv8 (F_lt _))) ?_
          rintro _ _ ⟨rfl, rfl⟩
          rw [eb_round hv8]
          refine GL_drop (Pick.suf N8 _) ?_
          refine GL_s rfl (S_all rfl rfl ag22 (by first | exact IVd_len _ | (rw [IV_len]; assumption) | (rw [len_B]; assumption) | rfl) (by first | exact all_IV _ | exact all_B _ | rfl) (by repeat (first | exact .head | apply Rem.tail)) (by first | exact IVd_len _ | (rw [IV_len]; assumption) | (rw [len_B]; assumption) | rfl)) ?_
          refine GL_nil ?_
          (repeat (first | (with_reducible refine R_seq ?_) | (with_reducible refine R_block_normal ?_)))
          (repeat (with_reducible refine G_seq ?_))
          refine G_ret ?_
          (repeat (first | (with_reducible refine R_then_ret ?_) | (with_reducible refine R_block_ret ?_)))
          refine R_ret (.ag rfl (by repeat (first | exact .head _ | apply List.Mem.tail)) (by exact ag22) .nil) [] .nil ⟨rfl, rfl⟩
end Go.Proofs.Ytefphcpaakhfbaa

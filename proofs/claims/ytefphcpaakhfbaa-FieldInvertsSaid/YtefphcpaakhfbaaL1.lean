/-
  The references: at, Cmp, P, Full, Is.
-/
import Derived.Test.YtefphcpaakhfbaaLA
namespace Go.Proofs.Ytefphcpaakhfbaa
open Go Go.Sl Go.RowKit Go.Fp

theorem sl48 : TSli Try.prog 48 5 1 := ⟨Try.underlying48, by kernel_rfl⟩
set_option maxHeartbeats 4000000 in
theorem at_is {ao : Option Addr} {l c i : Nat} {bs : List UInt8} {w : World} (hs : SlAt w ao (B bs)) (hl : l = bs.length) : FnAt Try.prog 48 [.slice ao l c, .int .i64 (i : Int)] [] w (Ret fun v N => v = .int .i64 (dgt bs i : Nat) ∧ N = []) := by
  subst hl
  refine FnAt.intro Try.func48 rfl Try.ntmps48 rfl _ rfl ?_
  (repeat (with_reducible refine G_seq ?_))
  refine G_region ?_
  refine GL_y rfl rfl (Y_assign rfl) ?_
  refine GL_nil ?_
  (repeat (first | (with_reducible refine R_seq ?_) | (with_reducible refine R_block_normal ?_)))
  (repeat (with_reducible refine G_seq ?_))
  refine G_region ?_
  refine GL_y rfl rfl (Y_move rfl) ?_
  refine GL_y rfl rfl (Y_move rfl) ?_
  refine GL_y rfl rfl (Y_len sl48 rfl) ?_
  refine GL_y rfl rfl (Y_lssN rfl rfl) ?_
  refine GL_nil ?_
  (repeat (first | (with_reducible refine R_seq ?_) | (with_reducible refine R_block_normal ?_)))
  (repeat (with_reducible refine G_seq ?_))
  refine G_cond_dec rfl (fun ht8 => ?_) (fun ht8 => ?_)
  · -- yes
    have ht8 : i < bs.length := ht8
    (repeat (with_reducible refine G_seq ?_))
    refine G_region ?_
    refine GL_y rfl rfl (Y_move rfl) ?_
    refine GL_y rfl rfl (Y_move rfl) ?_
    refine GL_y rfl rfl (Y_bAt hs rfl rfl ht8 rfl) ?_
    refine GL_y rfl rfl (Y_bGet hs (by simp) rfl ht8) ?_
    refine GL_y rfl rfl (Y_ofByte Try.underlying5 Try.underlying3 (by decide) rfl) ?_
    refine GL_y rfl rfl (Y_assign rfl) ?_
    refine GL_nil ?_
    (repeat (first | (with_reducible refine R_seq ?_) | (with_reducible refine R_block_normal ?_)))
    (repeat (with_reducible refine G_seq ?_))
    refine G_ret ?_
    (repeat (first | (with_reducible refine R_then_ret ?_) | (with_reducible refine R_block_ret ?_)))
    refine R_ret (.tmp rfl .nil) [] .nil ⟨congrArg (fun z : Nat => Value.int .i64 (z : Int)) (dgt_in ht8), rfl⟩
  · -- no
    have ht8 : ¬ i < bs.length := ht8
    (repeat (with_reducible refine G_seq ?_))
    refine G_skip ?_
    (repeat (first | (with_reducible refine R_seq ?_) | (with_reducible refine R_block_normal ?_)))
    (repeat (with_reducible refine G_seq ?_))
    refine G_region ?_
    refine GL_y rfl rfl (Y_assign rfl) ?_
    refine GL_nil ?_
    (repeat (first | (with_reducible refine R_seq ?_) | (with_reducible refine R_block_normal ?_)))
    (repeat (with_reducible refine G_seq ?_))
    refine G_ret ?_
    (repeat (first | (with_reducible refine R_then_ret ?_) | (with_reducible refine R_block_ret ?_)))
    refine R_ret (.tmp rfl .nil) [] .nil ⟨congrArg (fun z : Nat => Value.int .i64 (z : Int)) (dgt_out ht8), rfl⟩
set_option maxHeartbeats 4000000 in
theorem cmpE_is {ao bo : Option Addr} {la ca lb cb : Nat} {xs bs : List UInt8} {w : World} (hs : SlAt w ao (B xs)) (ht : SlAt w bo (B bs)) (hla : la = xs.length) (hlb : lb = bs.length) (h1 : xs.length ≤ 100000) (h2 : bs.length ≤ 100000) :
    FnAt Try.prog 31 [.slice ao la ca, .slice bo lb cb] [] w (Ret fun v N => v = .int .i64 (cmpZ (leN xs) (leN bs)) ∧ N = []) := by
  subst hla; subst hlb
  refine FnAt.intro Try.func31 rfl Try.ntmps31 rfl _ rfl ?_
  (repeat (with_reducible refine G_seq ?_))
  refine G_region ?_
  refine GL_y rfl rfl (Y_assign rfl) ?_
  refine GL_nil ?_
  (repeat (first | (with_reducible refine R_seq ?_) | (with_reducible refine R_block_normal ?_)))
  (repeat (with_reducible refine G_seq ?_))
  refine G_region ?_
  refine GL_y rfl rfl (Y_move rfl) ?_
  refine GL_y rfl rfl (Y_len sl48 rfl) ?_
  refine GL_y rfl rfl (Y_move rfl) ?_
  refine GL_y rfl rfl (Y_len sl48 rfl) ?_
  refine GL_y rfl rfl (Y_max rfl rfl) ?_
  refine GL_y rfl rfl ((Y_iop rfl rfl rfl).as _ (cmp_first (by omega))) ?_
  refine GL_y rfl rfl (Y_assign rfl) ?_
  refine GL_nil ?_
  (repeat (first | (with_reducible refine R_seq ?_) | (with_reducible refine R_block_normal ?_)))
  (repeat (with_reducible refine G_seq ?_))
  refine G_block ?_
  (repeat (with_reducible refine G_seq ?_))
  refine G_loop (ι := Nat) (fun m => m) (fun m => leN xs / 256 ^ m = leN bs / 256 ^ m ∧ m ≤ 100000) (fun m => [(0, .slice ao xs.length ca), (1, .slice bo bs.length cb), (5, .int .i64 ((m : Int) - 1))]) (fun m => []) (max xs.length bs.length) ?_ (⟨by first | rfl | decide, by first | rfl | decide, by first | rfl | decide, trivial⟩) (by repeat (first | exact .nil | exact Pick.rfl' _ | exact Pick.skip (Pick.rfl' _) | exact Pick.skip (Pick.skip (Pick.rfl' _)) | (apply Pick.cons; focus (repeat (first | exact .head | apply Rem.tail))))) ?_
  · exact ⟨cmp_start xs bs, by omega⟩
  intro m hi
  (repeat (with_reducible refine G_seq ?_))
  refine G_region ?_
  refine GL_y rfl rfl (Y_move rfl) ?_
  refine GL_y rfl rfl (Y_iop rfl rfl rfl) ?_
  refine GL_nil ?_
  (repeat (first | (with_reducible refine R_seq ?_) | (with_reducible refine R_block_normal ?_)))
  (repeat (with_reducible refine G_seq ?_))
  refine G_cond_dec rfl (fun ht13 => ?_) (fun ht13 => ?_)
  · -- yes
    (repeat (with_reducible refine G_seq ?_))
    refine G_skip ?_
    (repeat (first | (with_reducible refine R_seq ?_) | (with_reducible refine R_block_normal ?_)))
    (repeat (with_reducible refine G_seq ?_))
    refine G_block ?_
    have hm : 0 < m := by have h : ((m : Int) - 1) ≥ 0 := ht13; omega
    (repeat (with_reducible refine G_seq ?_))
    refine G_region ?_
    refine GL_set 5 _ rfl (cmp_set hm) ?_
    refine GL_y rfl rfl (Y_move rfl) ?_
    refine GL_y rfl rfl (Y_move rfl) ?_
    refine GL_call rfl rfl rfl rfl Try.call48 .nil (fun w hw => at_is (bs := xs) (hs.keep hw (by simp)) rfl) ?_
    rintro _ _ ⟨rfl, rfl⟩
    refine GL_y rfl rfl (Y_move rfl) ?_
    refine GL_y rfl rfl (Y_move rfl) ?_
    refine GL_call rfl rfl rfl rfl Try.call48 .nil (fun w hw => at_is (bs := bs) (ht.keep hw (by simp)) rfl) ?_
    rintro _ _ ⟨rfl, rfl⟩
    refine GL_y rfl rfl (Y_lssN rfl rfl) ?_
    refine GL_nil ?_
    (repeat (first | (with_reducible refine R_seq ?_) | (with_reducible refine R_block_normal ?_)))
    (repeat (with_reducible refine G_seq ?_))
    refine G_cond_dec rfl (fun h22 => ?_) (fun h22 => ?_)
    · -- yes
      (repeat (with_reducible refine G_seq ?_))
      refine G_region ?_
      refine GL_y rfl rfl (Y_assign rfl) ?_
      refine GL_nil ?_
      (repeat (first | (with_reducible refine R_seq ?_) | (with_reducible refine R_block_normal ?_)))
      (repeat (with_reducible refine G_seq ?_))
      refine G_ret ?_
      (repeat (first | (with_reducible refine R_then_ret ?_) | (with_reducible refine R_block_ret ?_)))
      have h1 : leN xs / 256 ^ (m - 1 + 1) = leN bs / 256 ^ (m - 1 + 1) := by rw [Nat.sub_add_cancel hm]; exact hi.1
      refine R_ret (.tmp rfl .nil) [] .nil ⟨congrArg (Value.int .i64) (cmpZ_lt (cmp_lt h1 h22)), rfl⟩
    · -- no
      (repeat (with_reducible refine G_seq ?_))
      refine G_skip ?_
      (repeat (first | (with_reducible refine R_seq ?_) | (with_reducible refine R_block_normal ?_)))
      (repeat (with_reducible refine G_seq ?_))
      refine G_region ?_
      refine GL_y rfl rfl (Y_move rfl) ?_
      refine GL_y rfl rfl (Y_move rfl) ?_
      refine GL_call rfl rfl rfl rfl Try.call48 .nil (fun w hw => at_is (bs := xs) (hs.keep hw (by simp)) rfl) ?_
      rintro _ _ ⟨rfl, rfl⟩
      refine GL_y rfl rfl (Y_move rfl) ?_
      refine GL_y rfl rfl (Y_move rfl) ?_
      refine GL_call rfl rfl rfl rfl Try.call48 .nil (fun w hw => at_is (bs := bs) (ht.keep hw (by simp)) rfl) ?_
      rintro _ _ ⟨rfl, rfl⟩
      refine GL_y rfl rfl (Y_gtrN rfl rfl) ?_
      refine GL_nil ?_
      (repeat (first | (with_reducible refine R_seq ?_) | (with_reducible refine R_block_normal ?_)))
      (repeat (with_reducible refine G_seq ?_))
      refine G_cond_dec rfl (fun h29 => ?_) (fun h29 => ?_)
      · -- yes
        (repeat (with_reducible refine G_seq ?_))
        refine G_region ?_
        refine GL_y rfl rfl (Y_assign rfl) ?_
        refine GL_nil ?_
        (repeat (first | (with_reducible refine R_seq ?_) | (with_reducible refine R_block_normal ?_)))
        (repeat (with_reducible refine G_seq ?_))
        refine G_ret ?_
        (repeat (first | (with_reducible refine R_then_ret ?_) | (with_reducible refine R_block_ret ?_)))
        have h1 : leN xs / 256 ^ (m - 1 + 1) = leN bs / 256 ^ (m - 1 + 1) := by rw [Nat.sub_add_cancel hm]; exact hi.1
        refine R_ret (.tmp rfl .nil) [] .nil ⟨congrArg (Value.int .i64) (cmpZ_gt (cmp_lt h1.symm h29)), rfl⟩
      · -- no
        (repeat (with_reducible refine G_seq ?_))
        refine G_skip ?_
        (repeat (first | (with_reducible refine R_seq ?_) | (with_reducible refine R_block_normal ?_)))
        (repeat (with_reducible refine G_seq ?_))
        refine G_region ?_
        refine GL_y rfl rfl (Y_move rfl) ?_
        refine GL_y rfl rfl ((Y_iop rfl rfl rfl).as _ (cmp_dec hm (by omega))) ?_
        refine GL_y rfl rfl (Y_assign rfl) ?_
        refine GL_nil ?_
        (repeat (first | (with_reducible refine R_seq ?_) | (with_reducible refine R_block_normal ?_)))
        (repeat (with_reducible refine R_block_normal ?_))
        refine R_fam (m - 1) ?_ (⟨by first | rfl | decide, by first | rfl | decide, by first | rfl | decide, trivial⟩) (by repeat (first | exact .nil | exact Pick.rfl' _ | exact Pick.skip (Pick.rfl' _) | exact Pick.skip (Pick.skip (Pick.rfl' _)) | (apply Pick.cons; focus (repeat (first | exact .head | apply Rem.tail)))))
        have h1 : leN xs / 256 ^ (m - 1 + 1) = leN bs / 256 ^ (m - 1 + 1) := by rw [Nat.sub_add_cancel hm]; exact hi.1
        exact ⟨⟨cmp_eq h1 h22 h29, by omega⟩, by omega⟩
  · -- no
    (repeat (with_reducible refine G_seq ?_))
    refine G_exit ?_
    (repeat (first | (with_reducible refine R_then_exit ?_) | (with_reducible refine R_block_exit ?_) | (with_reducible refine R_block_other (by decide) ?_)))
    (repeat (first | (with_reducible refine R_seq ?_) | (with_reducible refine R_block_normal ?_)))
    (repeat (with_reducible refine G_seq ?_))
    refine G_region ?_
    refine GL_y rfl rfl (Y_assign rfl) ?_
    refine GL_nil ?_
    (repeat (first | (with_reducible refine R_seq ?_) | (with_reducible refine R_block_normal ?_)))
    (repeat (with_reducible refine G_seq ?_))
    refine G_ret ?_
    (repeat (first | (with_reducible refine R_then_ret ?_) | (with_reducible refine R_block_ret ?_)))
    have hm0 : m = 0 := by have h : ¬ ((m : Int) - 1) ≥ 0 := ht13; omega
    subst hm0
    have he : leN xs = leN bs := by have h := hi.1; rwa [Nat.pow_zero, Nat.div_one, Nat.div_one] at h
    refine R_ret (.tmp rfl .nil) [] .nil ⟨congrArg (Value.int .i64) (cmpZ_eq he), rfl⟩
set_option maxHeartbeats 4000000 in
theorem p_is {w : World} : FnAt Try.prog 32 [] [] w (Ret fun v N => ∃ b c, v = .slice (some ⟨b, 0, none⟩) 32 c ∧ N = [⟨b, 5, c * 1, B pB, (0, 0)⟩]) := by
  refine FnAt.intro Try.func32 rfl Try.ntmps32 rfl _ rfl ?_
  (repeat (with_reducible refine G_seq ?_))
  refine G_region ?_
  refine GL_y rfl rfl (Y_assign rfl) ?_
  refine GL_nil ?_
  (repeat (first | (with_reducible refine R_seq ?_) | (with_reducible refine R_block_normal ?_)))
  (repeat (with_reducible refine G_seq ?_))
  refine G_region ?_
  refine GL_w rfl rfl (W_bs (B [237]) Try.underlying48 te8 (all_B _) (by simp [B]) (by simp [B]) rfl rfl fun b2 => ?_)
  refine GL_y rfl rfl (Y_assign rfl) ?_
  refine GL_nil ?_
  (repeat (first | (with_reducible refine R_seq ?_) | (with_reducible refine R_block_normal ?_)))
  (repeat (with_reducible refine G_seq ?_))
  refine G_block ?_
  (repeat (with_reducible refine G_seq ?_))
  refine G_loop (ι := (Nat × Nat × Nat)) (fun p => 30 - p.1) (fun p => p.1 ≤ 30) (fun p => [(1, .slice (some ⟨p.2.1, 0, none⟩) ([237] ++ List.replicate p.1 (255 : UInt8)).length p.2.2)]) (fun p => [⟨p.2.1, 5, p.2.2 * 1, B ([237] ++ List.replicate p.1 255), (0, 0)⟩]) (0, b2, 1) ?_ (⟨by first | rfl | decide, trivial⟩) (by repeat (first | exact .nil | exact Pick.rfl' _ | exact Pick.skip (Pick.rfl' _) | exact Pick.skip (Pick.skip (Pick.rfl' _)) | (apply Pick.cons; focus (repeat (first | exact .head | apply Rem.tail))))) ?_
  · exact Nat.zero_le _
  intro p hp
  (repeat (with_reducible refine G_seq ?_))
  refine G_region ?_
  refine GL_y rfl rfl (Y_move rfl) ?_
  refine GL_y rfl rfl (Y_len sl48 rfl) ?_
  refine GL_y rfl rfl (Y_lssN (b := 31) rfl rfl) ?_
  refine GL_nil ?_
  (repeat (first | (with_reducible refine R_seq ?_) | (with_reducible refine R_block_normal ?_)))
  (repeat (with_reducible refine G_seq ?_))
  refine G_cond_dec rfl (fun ht5 => ?_) (fun ht5 => ?_)
  · -- yes
    (repeat (with_reducible refine G_seq ?_))
    refine G_skip ?_
    (repeat (first | (with_reducible refine R_seq ?_) | (with_reducible refine R_block_normal ?_)))
    (repeat (with_reducible refine G_seq ?_))
    refine G_block ?_
    (repeat (with_reducible refine G_seq ?_))
    refine G_region ?_
    refine GL_y rfl rfl (Y_move rfl) ?_
    refine GL_w rfl rfl (W_bs (B [255]) Try.underlying48 te8 (all_B _) (by simp [B]) (by simp [B]) rfl rfl fun b7 => ?_)
    refine GL_w rfl rfl (W_appB ([255]) Try.underlying48 te8 rfl rfl (by repeat (first | exact .head | apply Rem.tail)) rfl rfl (.inl rfl) (fun w s => SlAt.mk' (s.cells (by repeat (first | exact .head _ | apply List.Mem.tail)))) (by rw [p1_len]; simp; omega) fun b8 c8 h8 => ?_)
    refine GL_y rfl rfl (Y_assign rfl) ?_
    refine GL_nil ?_
    (repeat (first | (with_reducible refine R_seq ?_) | (with_reducible refine R_block_normal ?_)))
    (repeat (with_reducible refine R_block_normal ?_))
    rw [pB_app]
    refine R_fam (p.1 + 1, b8, c8) ?_ (⟨by first | rfl | decide, trivial⟩) (by repeat (first | exact .nil | exact Pick.rfl' _ | exact Pick.skip (Pick.rfl' _) | exact Pick.skip (Pick.skip (Pick.rfl' _)) | (apply Pick.cons; focus (repeat (first | exact .head | apply Rem.tail)))))
    have h : ([237] ++ List.replicate p.1 (255 : UInt8)).length < 31 := ht5
    rw [p1_len] at h
    exact ⟨by simp only; omega, by simp only; omega⟩
  · -- no
    (repeat (with_reducible refine G_seq ?_))
    refine G_exit ?_
    (repeat (first | (with_reducible refine R_then_exit ?_) | (with_reducible refine R_block_exit ?_) | (with_reducible refine R_block_other (by decide) ?_)))
    (repeat (first | (with_reducible refine R_seq ?_) | (with_reducible refine R_block_normal ?_)))
    have hj : p.1 = 30 := by have h : ¬ ([237] ++ List.replicate p.1 (255 : UInt8)).length < 31 := ht5; rw [p1_len] at h; omega
    obtain ⟨j, b, c⟩ := p
    simp only at hj
    subst hj
    (repeat (with_reducible refine G_seq ?_))
    refine G_region ?_
    refine GL_y rfl rfl (Y_move rfl) ?_
    refine GL_w rfl rfl (W_bs (B [127]) Try.underlying48 te8 (all_B _) (by simp [B]) (by simp [B]) rfl rfl fun b10 => ?_)
    refine GL_w rfl rfl (W_appB ([127]) Try.underlying48 te8 rfl rfl (by repeat (first | exact .head | apply Rem.tail)) rfl rfl (.inl rfl) (fun w s => SlAt.mk' (s.cells (by repeat (first | exact .head _ | apply List.Mem.tail)))) (by rw [p1_len]; simp) fun b11 c11 h11 => ?_)
    refine GL_y rfl rfl (Y_assign rfl) ?_
    refine GL_nil ?_
    (repeat (first | (with_reducible refine R_seq ?_) | (with_reducible refine R_block_normal ?_)))
    (repeat (with_reducible refine G_seq ?_))
    refine G_region ?_
    refine GL_y rfl rfl (Y_move rfl) ?_
    refine GL_y rfl rfl (Y_assign rfl) ?_
    refine GL_nil ?_
    (repeat (first | (with_reducible refine R_seq ?_) | (with_reducible refine R_block_normal ?_)))
    (repeat (with_reducible refine G_seq ?_))
    refine G_ret ?_
    (repeat (first | (with_reducible refine R_then_ret ?_) | (with_reducible refine R_block_ret ?_)))
    refine R_ret (.tmp rfl .nil) [⟨b11, 5, c11 * 1, B pB, (0, 0)⟩] (by repeat (first | exact .nil | exact Pick.rfl' _ | exact Pick.skip (Pick.rfl' _) | exact Pick.skip (Pick.skip (Pick.rfl' _)) | (apply Pick.cons; focus (repeat (first | exact .head | apply Rem.tail))))) ⟨b11, c11, rfl, rfl⟩
end Go.Proofs.Ytefphcpaakhfbaa

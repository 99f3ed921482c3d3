/-
  The references: Add, Sub, small products.
-/
import Derived.Test.YtefphcpaakhfbaaL6
namespace Go.Proofs.Ytefphcpaakhfbaa
open Go Go.Sl Go.RowKit Go.Fp


set_option maxHeartbeats 4000000 in
theorem radd_is {ao bo : Option Addr} {la ca lb cb : Nat} {xs ys : List UInt8} {w : World} (hs : SlAt w ao (B xs)) (ht : SlAt w bo (B ys)) (hla : la = xs.length) (hlb : lb = ys.length) (h1 : xs.length ≤ 10000) (h2 : ys.length ≤ 10000) {v : Nat} (hv : leN xs + leN ys = v) : FnAt Try.prog 36 [.slice ao la ca, .slice bo lb cb] [] w (Ret fun r N => NB v r N) := by
  subst hla; subst hlb
  refine FnAt.intro Try.func36 rfl Try.ntmps36 rfl _ rfl ?_
  (repeat (with_reducible refine G_seq ?_))
  refine G_region ?_
  refine GL_y rfl rfl (Y_assign rfl) ?_
  refine GL_nil ?_
  (repeat (first | (with_reducible refine R_seq ?_) | (with_reducible refine R_block_normal ?_)))
  (repeat (with_reducible refine G_seq ?_))
  refine G_region ?_
  refine GL_y rfl rfl (Y_assign rfl) ?_
  refine GL_nil ?_
  (repeat (first | (with_reducible refine R_seq ?_) | (with_reducible refine R_block_normal ?_)))
  (repeat (with_reducible refine G_seq ?_))
  refine G_region ?_
  refine GL_y rfl rfl (Y_assign rfl) ?_
  refine GL_nil ?_
  (repeat (first | (with_reducible refine R_seq ?_) | (with_reducible refine R_block_normal ?_)))
  (repeat (with_reducible refine G_seq ?_))
  refine G_region ?_
  refine GL_y rfl rfl (Y_assign rfl) ?_
  refine GL_nil ?_
  (repeat (first | (with_reducible refine R_seq ?_) | (with_reducible refine R_block_normal ?_)))
  (repeat (with_reducible refine G_seq ?_))
  refine G_block ?_
  (repeat (with_reducible refine G_seq ?_))
  refine G_loop (ι := AI) (fun p => (max xs.length ys.length + 1) - p.i) (fun p => AI.ok (leN xs) (leN ys) (max xs.length ys.length) p) (fun p => [(0, .slice ao xs.length ca), (1, .slice bo ys.length cb), (5, .slice p.ao p.bs.length p.cp), (6, .int .i64 (p.c : Int)), (7, .int .i64 (p.i : Int))]) (fun p => p.N) ⟨0, 0, [], none, 0, []⟩ ?_ (⟨by first | rfl | decide, by first | rfl | decide, by first | rfl | decide, by first | rfl | decide, by first | rfl | decide, trivial⟩) (by repeat (first | exact .nil | exact Pick.rfl' _ | exact Pick.skip (Pick.rfl' _) | exact Pick.skip (Pick.skip (Pick.rfl' _)) | (apply Pick.cons; focus (repeat (first | exact .head | apply Rem.tail))))) ?_
  · exact ⟨by simp, by simp, fun _ => rfl, rfl, .none rfl, by simp [leN, Nat.mod_one]⟩
  intro p h
  (repeat (with_reducible refine G_seq ?_))
  refine G_region ?_
  refine GL_y rfl rfl (Y_move rfl) ?_
  refine GL_y rfl rfl (Y_move rfl) ?_
  refine GL_y rfl rfl (Y_len sl48 rfl) ?_
  refine GL_y rfl rfl (Y_lssN rfl rfl) ?_
  refine GL_y rfl rfl (Y_move rfl) ?_
  refine GL_bool 13 rfl (fun g13 => ?_) (fun g13 => ?_)
  · -- g13 True
    have g1 : p.i < xs.length := of_decide_eq_true g13
    refine GL_skip rfl rfl ?_
    refine GL_skip rfl rfl ?_
    refine GL_skip rfl rfl ?_
    refine GL_skip rfl rfl ?_
    refine GL_y rfl rfl (Y_pick rfl rfl rfl rfl) ?_
    refine GL_y rfl rfl (Y_move rfl) ?_
    refine GL_skip rfl rfl ?_
    refine GL_skip rfl rfl ?_
    refine GL_y rfl rfl (Y_pick rfl rfl rfl rfl) ?_
    refine GL_nil ?_
    (repeat (first | (with_reducible refine R_seq ?_) | (with_reducible refine R_block_normal ?_)))
    (repeat (with_reducible refine G_seq ?_))
    refine G_cond_t rfl (by rfl) ?_
    (repeat (with_reducible refine G_seq ?_))
    refine G_skip ?_
    (repeat (first | (with_reducible refine R_seq ?_) | (with_reducible refine R_block_normal ?_)))
    (repeat (with_reducible refine G_seq ?_))
    refine G_block ?_
    have hx1 := dgt_lt xs p.i
    have hy1 := dgt_lt ys p.i
    have hc1 := h.hc
    have hi1 := h.hi
    have hl1 := h.hl
    (repeat (with_reducible refine G_seq ?_))
    refine G_region ?_
    refine GL_y rfl rfl (Y_move rfl) ?_
    refine GL_y rfl rfl (Y_move rfl) ?_
    refine GL_call rfl rfl rfl rfl Try.call48 .nil (fun w hw => at_is (bs := xs) (hs.keep hw (by simp)) rfl) ?_
    rintro _ _ ⟨rfl, rfl⟩
    refine GL_y rfl rfl (Y_move rfl) ?_
    refine GL_y rfl rfl (Y_move rfl) ?_
    refine GL_call rfl rfl rfl rfl Try.call48 .nil (fun w hw => at_is (bs := ys) (ht.keep hw (by simp)) rfl) ?_
    rintro _ _ ⟨rfl, rfl⟩
    refine GL_y rfl rfl (Y_addN rfl rfl (by omega)) ?_
    refine GL_y rfl rfl (Y_move rfl) ?_
    refine GL_y rfl rfl (Y_addN rfl rfl (by omega)) ?_
    refine GL_y rfl rfl (Y_assign rfl) ?_
    refine GL_nil ?_
    (repeat (first | (with_reducible refine R_seq ?_) | (with_reducible refine R_block_normal ?_)))
    (repeat (with_reducible refine G_seq ?_))
    refine G_region ?_
    refine GL_y rfl rfl (Y_move rfl) ?_
    refine GL_y rfl rfl (Y_move rfl) ?_
    refine GL_y rfl rfl (Y_remN (b := 256) rfl rfl (by decide)) ?_
    refine GL_y rfl rfl (Y_byteN Try.underlying3 Try.underlying5 rfl) ?_
    refine GL_w rfl rfl (W_bs (B [UInt8.ofNat ((dgt xs p.i + dgt ys p.i + p.c) % 256)]) Try.underlying48 te8 (all_B _) (by simp [B]) (by simp [B]) rfl rfl fun b38 => ?_)
    refine GL_w rfl rfl (W_appOB ([UInt8.ofNat ((dgt xs p.i + dgt ys p.i + p.c) % 256)]) h.hO (by repeat (first | exact .nil | exact Pick.rfl' _ | exact Pick.skip (Pick.rfl' _) | exact Pick.skip (Pick.skip (Pick.rfl' _)) | (apply Pick.cons; focus (repeat (first | exact .head | apply Rem.tail))))) rfl rfl rfl rfl (by simp) (fun w s => SlAt.mk' (s.cells (by repeat (first | exact .head _ | apply List.Mem.tail)))) (by simp only [List.length_cons, List.length_nil]; omega) fun b39 c39 h39 => ?_)
    refine GL_y rfl rfl (Y_assign rfl) ?_
    refine GL_nil ?_
    (repeat (first | (with_reducible refine R_seq ?_) | (with_reducible refine R_block_normal ?_)))
    (repeat (with_reducible refine G_seq ?_))
    refine G_region ?_
    refine GL_y rfl rfl (Y_move rfl) ?_
    refine GL_y rfl rfl (Y_quoN (b := 256) rfl rfl (by decide) (by omega)) ?_
    refine GL_y rfl rfl (Y_assign rfl) ?_
    refine GL_nil ?_
    (repeat (first | (with_reducible refine R_seq ?_) | (with_reducible refine R_block_normal ?_)))
    (repeat (with_reducible refine G_seq ?_))
    refine G_region ?_
    refine GL_y rfl rfl (Y_move rfl) ?_
    refine GL_y rfl rfl (Y_addN (b := 1) rfl rfl (by first | omega | decide)) ?_
    refine GL_y rfl rfl (Y_assign rfl) ?_
    refine GL_nil ?_
    (repeat (first | (with_reducible refine R_seq ?_) | (with_reducible refine R_block_normal ?_)))
    (repeat (with_reducible refine R_block_normal ?_))
    refine R_fam ⟨p.i + 1, (dgt xs p.i + dgt ys p.i + p.c) / 256, p.bs ++ [UInt8.ofNat ((dgt xs p.i + dgt ys p.i + p.c) % 256)], some ⟨b39, 0, none⟩, c39, [⟨b39, 5, c39 * 1, B (p.bs ++ [UInt8.ofNat ((dgt xs p.i + dgt ys p.i + p.c) % 256)]), (0, 0)⟩]⟩ ?_ (⟨by first | rfl | decide, by first | rfl | decide, by first | rfl | decide, by first | rfl | decide, by first | rfl | decide, trivial⟩) (by repeat (first | exact .nil | exact Pick.rfl' _ | exact Pick.skip (Pick.rfl' _) | exact Pick.skip (Pick.skip (Pick.rfl' _)) | (apply Pick.cons; focus (repeat (first | exact .head | apply Rem.tail)))))
    have hle : p.i ≤ max xs.length ys.length := by
      first
      | omega
      | (have h22 : p.c > 0 := h22; have := h.hm; omega)
    exact ⟨AI.step h hle (fun e => ⟨(dgt_out (by omega)).symm, (dgt_out (by omega)).symm⟩) (.some h39), by simp only; omega⟩
  · -- g13 False
    have g1 : ¬ p.i < xs.length := of_decide_eq_false g13
    refine GL_y rfl rfl (Y_move rfl) ?_
    refine GL_y rfl rfl (Y_move rfl) ?_
    refine GL_y rfl rfl (Y_len sl48 rfl) ?_
    refine GL_y rfl rfl (Y_lssN rfl rfl) ?_
    refine GL_y rfl rfl (Y_pick rfl rfl rfl rfl) ?_
    refine GL_y rfl rfl (Y_move rfl) ?_
    refine GL_bool 19 rfl (fun g19 => ?_) (fun g19 => ?_)
    · -- g19 True
      have g2 : p.i < ys.length := of_decide_eq_true g19
      refine GL_skip rfl rfl ?_
      refine GL_skip rfl rfl ?_
      refine GL_y rfl rfl (Y_pick rfl rfl rfl rfl) ?_
      refine GL_nil ?_
      (repeat (first | (with_reducible refine R_seq ?_) | (with_reducible refine R_block_normal ?_)))
      (repeat (with_reducible refine G_seq ?_))
      refine G_cond_t rfl (by rfl) ?_
      (repeat (with_reducible refine G_seq ?_))
      refine G_skip ?_
      (repeat (first | (with_reducible refine R_seq ?_) | (with_reducible refine R_block_normal ?_)))
      (repeat (with_reducible refine G_seq ?_))
      refine G_block ?_
      have hx1 := dgt_lt xs p.i
      have hy1 := dgt_lt ys p.i
      have hc1 := h.hc
      have hi1 := h.hi
      have hl1 := h.hl
      (repeat (with_reducible refine G_seq ?_))
      refine G_region ?_
      refine GL_y rfl rfl (Y_move rfl) ?_
      refine GL_y rfl rfl (Y_move rfl) ?_
      refine GL_call rfl rfl rfl rfl Try.call48 .nil (fun w hw => at_is (bs := xs) (hs.keep hw (by simp)) rfl) ?_
      rintro _ _ ⟨rfl, rfl⟩
      refine GL_y rfl rfl (Y_move rfl) ?_
      refine GL_y rfl rfl (Y_move rfl) ?_
      refine GL_call rfl rfl rfl rfl Try.call48 .nil (fun w hw => at_is (bs := ys) (ht.keep hw (by simp)) rfl) ?_
      rintro _ _ ⟨rfl, rfl⟩
      refine GL_y rfl rfl (Y_addN rfl rfl (by omega)) ?_
      refine GL_y rfl rfl (Y_move rfl) ?_
      refine GL_y rfl rfl (Y_addN rfl rfl (by omega)) ?_
      refine GL_y rfl rfl (Y_assign rfl) ?_
      refine GL_nil ?_
      (repeat (first | (with_reducible refine R_seq ?_) | (with_reducible refine R_block_normal ?_)))
      (repeat (with_reducible refine G_seq ?_))
      refine G_region ?_
      refine GL_y rfl rfl (Y_move rfl) ?_
      refine GL_y rfl rfl (Y_move rfl) ?_
      refine GL_y rfl rfl (Y_remN (b := 256) rfl rfl (by decide)) ?_
      refine GL_y rfl rfl (Y_byteN Try.underlying3 Try.underlying5 rfl) ?_
      refine GL_w rfl rfl (W_bs (B [UInt8.ofNat ((dgt xs p.i + dgt ys p.i + p.c) % 256)]) Try.underlying48 te8 (all_B _) (by simp [B]) (by simp [B]) rfl rfl fun b38 => ?_)
      refine GL_w rfl rfl (W_appOB ([UInt8.ofNat ((dgt xs p.i + dgt ys p.i + p.c) % 256)]) h.hO (by repeat (first | exact .nil | exact Pick.rfl' _ | exact Pick.skip (Pick.rfl' _) | exact Pick.skip (Pick.skip (Pick.rfl' _)) | (apply Pick.cons; focus (repeat (first | exact .head | apply Rem.tail))))) rfl rfl rfl rfl (by simp) (fun w s => SlAt.mk' (s.cells (by repeat (first | exact .head _ | apply List.Mem.tail)))) (by simp only [List.length_cons, List.length_nil]; omega) fun b39 c39 h39 => ?_)
      refine GL_y rfl rfl (Y_assign rfl) ?_
      refine GL_nil ?_
      (repeat (first | (with_reducible refine R_seq ?_) | (with_reducible refine R_block_normal ?_)))
      (repeat (with_reducible refine G_seq ?_))
      refine G_region ?_
      refine GL_y rfl rfl (Y_move rfl) ?_
      refine GL_y rfl rfl (Y_quoN (b := 256) rfl rfl (by decide) (by omega)) ?_
      refine GL_y rfl rfl (Y_assign rfl) ?_
      refine GL_nil ?_
      (repeat (first | (with_reducible refine R_seq ?_) | (with_reducible refine R_block_normal ?_)))
      (repeat (with_reducible refine G_seq ?_))
      refine G_region ?_
      refine GL_y rfl rfl (Y_move rfl) ?_
      refine GL_y rfl rfl (Y_addN (b := 1) rfl rfl (by first | omega | decide)) ?_
      refine GL_y rfl rfl (Y_assign rfl) ?_
      refine GL_nil ?_
      (repeat (first | (with_reducible refine R_seq ?_) | (with_reducible refine R_block_normal ?_)))
      (repeat (with_reducible refine R_block_normal ?_))
      refine R_fam ⟨p.i + 1, (dgt xs p.i + dgt ys p.i + p.c) / 256, p.bs ++ [UInt8.ofNat ((dgt xs p.i + dgt ys p.i + p.c) % 256)], some ⟨b39, 0, none⟩, c39, [⟨b39, 5, c39 * 1, B (p.bs ++ [UInt8.ofNat ((dgt xs p.i + dgt ys p.i + p.c) % 256)]), (0, 0)⟩]⟩ ?_ (⟨by first | rfl | decide, by first | rfl | decide, by first | rfl | decide, by first | rfl | decide, by first | rfl | decide, trivial⟩) (by repeat (first | exact .nil | exact Pick.rfl' _ | exact Pick.skip (Pick.rfl' _) | exact Pick.skip (Pick.skip (Pick.rfl' _)) | (apply Pick.cons; focus (repeat (first | exact .head | apply Rem.tail)))))
      have hle : p.i ≤ max xs.length ys.length := by
        first
        | omega
        | (have h22 : p.c > 0 := h22; have := h.hm; omega)
      exact ⟨AI.step h hle (fun e => ⟨(dgt_out (by omega)).symm, (dgt_out (by omega)).symm⟩) (.some h39), by simp only; omega⟩
    · -- g19 False
      have g2 : ¬ p.i < ys.length := of_decide_eq_false g19
      refine GL_y rfl rfl (Y_move rfl) ?_
      refine GL_y rfl rfl (Y_gtrN (b := 0) rfl rfl) ?_
      refine GL_y rfl rfl (Y_pick rfl rfl rfl rfl) ?_
      refine GL_nil ?_
      (repeat (first | (with_reducible refine R_seq ?_) | (with_reducible refine R_block_normal ?_)))
      (repeat (with_reducible refine G_seq ?_))
      refine G_cond_dec rfl (fun h22 => ?_) (fun h22 => ?_)
      · -- yes
        (repeat (with_reducible refine G_seq ?_))
        refine G_skip ?_
        (repeat (first | (with_reducible refine R_seq ?_) | (with_reducible refine R_block_normal ?_)))
        (repeat (with_reducible refine G_seq ?_))
        refine G_block ?_
        have hx1 := dgt_lt xs p.i
        have hy1 := dgt_lt ys p.i
        have hc1 := h.hc
        have hi1 := h.hi
        have hl1 := h.hl
        (repeat (with_reducible refine G_seq ?_))
        refine G_region ?_
        refine GL_y rfl rfl (Y_move rfl) ?_
        refine GL_y rfl rfl (Y_move rfl) ?_
        refine GL_call rfl rfl rfl rfl Try.call48 .nil (fun w hw => at_is (bs := xs) (hs.keep hw (by simp)) rfl) ?_
        rintro _ _ ⟨rfl, rfl⟩
        refine GL_y rfl rfl (Y_move rfl) ?_
        refine GL_y rfl rfl (Y_move rfl) ?_
        refine GL_call rfl rfl rfl rfl Try.call48 .nil (fun w hw => at_is (bs := ys) (ht.keep hw (by simp)) rfl) ?_
        rintro _ _ ⟨rfl, rfl⟩
        refine GL_y rfl rfl (Y_addN rfl rfl (by omega)) ?_
        refine GL_y rfl rfl (Y_move rfl) ?_
        refine GL_y rfl rfl (Y_addN rfl rfl (by omega)) ?_
        refine GL_y rfl rfl (Y_assign rfl) ?_
        refine GL_nil ?_
        (repeat (first | (with_reducible refine R_seq ?_) | (with_reducible refine R_block_normal ?_)))
        (repeat (with_reducible refine G_seq ?_))
        refine G_region ?_
        refine GL_y rfl rfl (Y_move rfl) ?_
        refine GL_y rfl rfl (Y_move rfl) ?_
        refine GL_y rfl rfl (Y_remN (b := 256) rfl rfl (by decide)) ?_
        refine GL_y rfl rfl (Y_byteN Try.underlying3 Try.underlying5 rfl) ?_
        refine GL_w rfl rfl (W_bs (B [UInt8.ofNat ((dgt xs p.i + dgt ys p.i + p.c) % 256)]) Try.underlying48 te8 (all_B _) (by simp [B]) (by simp [B]) rfl rfl fun b38 => ?_)
        refine GL_w rfl rfl (W_appOB ([UInt8.ofNat ((dgt xs p.i + dgt ys p.i + p.c) % 256)]) h.hO (by repeat (first | exact .nil | exact Pick.rfl' _ | exact Pick.skip (Pick.rfl' _) | exact Pick.skip (Pick.skip (Pick.rfl' _)) | (apply Pick.cons; focus (repeat (first | exact .head | apply Rem.tail))))) rfl rfl rfl rfl (by simp) (fun w s => SlAt.mk' (s.cells (by repeat (first | exact .head _ | apply List.Mem.tail)))) (by simp only [List.length_cons, List.length_nil]; omega) fun b39 c39 h39 => ?_)
        refine GL_y rfl rfl (Y_assign rfl) ?_
        refine GL_nil ?_
        (repeat (first | (with_reducible refine R_seq ?_) | (with_reducible refine R_block_normal ?_)))
        (repeat (with_reducible refine G_seq ?_))
        refine G_region ?_
        refine GL_y rfl rfl (Y_move rfl) ?_
        refine GL_y rfl rfl (Y_quoN (b := 256) rfl rfl (by decide) (by omega)) ?_
        refine GL_y rfl rfl (Y_assign rfl) ?_
        refine GL_nil ?_
        (repeat (first | (with_reducible refine R_seq ?_) | (with_reducible refine R_block_normal ?_)))
        (repeat (with_reducible refine G_seq ?_))
        refine G_region ?_
        refine GL_y rfl rfl (Y_move rfl) ?_
        refine GL_y rfl rfl (Y_addN (b := 1) rfl rfl (by first | omega | decide)) ?_
        refine GL_y rfl rfl (Y_assign rfl) ?_
        refine GL_nil ?_
        (repeat (first | (with_reducible refine R_seq ?_) | (with_reducible refine R_block_normal ?_)))
        (repeat (with_reducible refine R_block_normal ?_))
        refine R_fam ⟨p.i + 1, (dgt xs p.i + dgt ys p.i + p.c) / 256, p.bs ++ [UInt8.ofNat ((dgt xs p.i + dgt ys p.i + p.c) % 256)], some ⟨b39, 0, none⟩, c39, [⟨b39, 5, c39 * 1, B (p.bs ++ [UInt8.ofNat ((dgt xs p.i + dgt ys p.i + p.c) % 256)]), (0, 0)⟩]⟩ ?_ (⟨by first | rfl | decide, by first | rfl | decide, by first | rfl | decide, by first | rfl | decide, by first | rfl | decide, trivial⟩) (by repeat (first | exact .nil | exact Pick.rfl' _ | exact Pick.skip (Pick.rfl' _) | exact Pick.skip (Pick.skip (Pick.rfl' _)) | (apply Pick.cons; focus (repeat (first | exact .head | apply Rem.tail)))))
        have hle : p.i ≤ max xs.length ys.length := by
          first
          | omega
          | (have h22 : p.c > 0 := h22; have := h.hm; omega)
        exact ⟨AI.step h hle (fun e => ⟨(dgt_out (by omega)).symm, (dgt_out (by omega)).symm⟩) (.some h39), by simp only; omega⟩
      · -- no
        (repeat (with_reducible refine G_seq ?_))
        refine G_exit ?_
        (repeat (first | (with_reducible refine R_then_exit ?_) | (with_reducible refine R_block_exit ?_) | (with_reducible refine R_block_other (by decide) ?_)))
        (repeat (first | (with_reducible refine R_seq ?_) | (with_reducible refine R_block_normal ?_)))
        have hi1 := h.hi
        have hl1 := h.hl
        (repeat (with_reducible refine G_seq ?_))
        refine G_region ?_
        refine GL_y rfl rfl (Y_move rfl) ?_
        refine GL_call rfl rfl rfl rfl Try.call49 .nil (fun w hw => norm_is (bs := p.bs) (OB.at h.hO (by repeat (first | exact .nil | exact Pick.rfl' _ | exact Pick.skip (Pick.rfl' _) | exact Pick.skip (Pick.skip (Pick.rfl' _)) | (apply Pick.cons; focus (repeat (first | exact .head | apply Rem.tail))))) hw) rfl (OB.cap h.hO) (by omega)) ?_
        rintro _ N9 ⟨rs, ao9, c9, rfl, hO9, hv9, hz9⟩
        refine GL_y rfl rfl (Y_assign rfl) ?_
        refine GL_nil ?_
        (repeat (first | (with_reducible refine R_seq ?_) | (with_reducible refine R_block_normal ?_)))
        (repeat (with_reducible refine G_seq ?_))
        refine G_ret ?_
        (repeat (first | (with_reducible refine R_then_ret ?_) | (with_reducible refine R_block_ret ?_)))
        have h22 : ¬ p.c > 0 := h22
        have hv0 : leN p.bs = v := by rw [AI.done h (by omega) (by omega) (by omega), hv]
        refine R_ret (.tmp rfl .nil) N9 (Pick.pre _ _) ⟨rs, ao9, c9, rfl, hO9, hv9.trans hv0, hz9⟩
end Go.Proofs.Ytefphcpaakhfbaa

/-
  The references: Sub, small products.
-/
import Derived.Test.YtefphcpaakhfbaaL7
namespace Go.Proofs.Ytefphcpaakhfbaa
open Go Go.Sl Go.RowKit Go.Fp


theorem cmpZ_ge {x y : Nat} (h : y ≤ x) : Value.bool (decide (cmpZ x y < 0)) = .bool false := by
  congr 1
  apply decide_eq_false
  unfold cmpZ
  rw [if_neg (by omega)]
  split <;> decide
theorem rsub_i {a b : Nat} (ha : a < 1000) (hb : b < 1000) : Value.int .i64 (IntKind.i64.wrap ((a : Int) - (b : Int))) = .int .i64 ((a : Int) - (b : Int)) := by
  have e : IntKind.i64.wrap ((a : Int) - (b : Int)) = (a : Int) - (b : Int) := by rw [IntKind.wrap_i64]; omega
  rw [e]
theorem rsub_j {a b c : Nat} (ha : a < 1000) (hb : b < 1000) (hc : c < 1000) : Value.int .i64 (IntKind.i64.wrap ((a : Int) - (b : Int) - (c : Int))) = .int .i64 ((a : Int) - (b : Int) - (c : Int)) := by
  have e : IntKind.i64.wrap ((a : Int) - (b : Int) - (c : Int)) = (a : Int) - (b : Int) - (c : Int) := by rw [IntKind.wrap_i64]; omega
  rw [e]
theorem rsub_k {a b c d : Nat} (ha : a < 1000) (hb : b < 256) (hc : c ≤ 1) (hd : d = a + 256 - b - c) : Value.int .i64 (IntKind.i64.wrap ((a : Int) - (b : Int) - (c : Int) + 256)) = .int .i64 (d : Int) := by
  have e : IntKind.i64.wrap ((a : Int) - (b : Int) - (c : Int) + 256) = (d : Int) := by rw [IntKind.wrap_i64]; omega
  rw [e]
theorem rsub_l {a b c d : Nat} (h : ¬ (a : Int) - (b : Int) - (c : Int) < 0) (hd : d = a - b - c) : Value.int .i64 ((a : Int) - (b : Int) - (c : Int)) = .int .i64 (d : Int) := by
  congr 1; omega
theorem dig_yes {a b c d c' : Nat} (h : (a : Int) - (b : Int) - (c : Int) < 0) (hb : b < 256) (hc : c ≤ 1) (hd : d = a + 256 - b - c) (hc' : c' = 1) : a + c' * 256 = d + b + c ∧ d < 256 ∧ c' ≤ 1 := by omega
theorem dig_no {a b c d c' : Nat} (h : ¬ (a : Int) - (b : Int) - (c : Int) < 0) (ha : a < 256) (hd : d = a - b - c) (hc' : c' = 0) : a + c' * 256 = d + b + c ∧ d < 256 ∧ c' ≤ 1 := by omega
set_option maxHeartbeats 4000000 in
theorem rsub_is {ao bo : Option Addr} {la ca lb cb : Nat} {xs ys : List UInt8} {w : World} (hs : SlAt w ao (B xs)) (ht : SlAt w bo (B ys)) (hla : la = xs.length) (hlb : lb = ys.length) (h1 : xs.length ≤ 10000) (h2 : ys.length ≤ 10000) {v : Nat} (hle : leN ys ≤ leN xs) (hv : leN xs - leN ys = v) : FnAt Try.prog 37 [.slice ao la ca, .slice bo lb cb] [] w (Ret fun r N => NB v r N) := by
  subst hla; subst hlb
  refine FnAt.intro Try.func37 rfl Try.ntmps37 rfl _ rfl ?_
  (repeat (with_reducible refine G_seq ?_))
  refine G_region ?_
  refine GL_y rfl rfl (Y_assign rfl) ?_
  refine GL_nil ?_
  (repeat (first | (with_reducible refine R_seq ?_) | (with_reducible refine R_block_normal ?_)))
  (repeat (with_reducible refine G_seq ?_))
  refine G_region ?_
  refine GL_y rfl rfl (Y_move rfl) ?_
  refine GL_y rfl rfl (Y_move rfl) ?_
  refine GL_call rfl rfl rfl rfl Try.call31 .nil (fun w hw => cmpE_is (hs.keep hw (by simp)) (ht.keep hw (by simp)) rfl rfl (by omega) (by omega)) ?_
  rintro _ _ ⟨rfl, rfl⟩
  refine GL_y rfl rfl ((Y_iop rfl rfl rfl).as _ (cmpZ_ge hle)) ?_
  refine GL_nil ?_
  (repeat (first | (with_reducible refine R_seq ?_) | (with_reducible refine R_block_normal ?_)))
  (repeat (with_reducible refine G_seq ?_))
  refine G_cond_f rfl (by first | rfl | decide | (simp; done) | (simp; omega)) ?_
  (repeat (with_reducible refine G_seq ?_))
  refine G_skip ?_
  (repeat (first | (with_reducible refine R_seq ?_) | (with_reducible refine R_block_normal ?_)))
  (repeat (with_reducible refine G_seq ?_))
  refine G_region ?_
  refine GL_y rfl rfl (Y_assign rfl) ?_
  refine GL_nil ?_
  (repeat (first | (with_reducible refine R_seq ?_) | (with_reducible refine R_block_normal ?_)))
  (repeat (with_reducible refine G_seq ?_))
  refine G_region ?_
  refine GL_y rfl rfl (Y_assign rfl) ?_
  refine GL_nil ?_
  (repeat (first | (with_reducible refine R_seq ?_) | (with_reducible refine R_block_normal ?_)))
  (repeat (with_reducible refine G_seq ?_))
  refine G_region ?_
  refine GL_y rfl rfl (Y_assign rfl) ?_
  refine GL_nil ?_
  (repeat (first | (with_reducible refine R_seq ?_) | (with_reducible refine R_block_normal ?_)))
  (repeat (with_reducible refine G_seq ?_))
  refine G_block ?_
  (repeat (with_reducible refine G_seq ?_))
  refine G_loop (ι := AI) (fun p => xs.length - p.i) (fun p => SI.ok (leN xs) (leN ys) xs.length p) (fun p => [(0, .slice ao xs.length ca), (1, .slice bo ys.length cb), (5, .slice p.ao p.bs.length p.cp), (6, .int .i64 (p.c : Int)), (7, .int .i64 (p.i : Int))]) (fun p => p.N) ⟨0, 0, [], none, 0, []⟩ ?_ (⟨by first | rfl | decide, by first | rfl | decide, by first | rfl | decide, by first | rfl | decide, by first | rfl | decide, trivial⟩) (by repeat (first | exact .nil | exact Pick.rfl' _ | exact Pick.skip (Pick.rfl' _) | exact Pick.skip (Pick.skip (Pick.rfl' _)) | (apply Pick.cons; focus (repeat (first | exact .head | apply Rem.tail))))) ?_
  · exact ⟨by simp, by simp, rfl, .none rfl, by simp [leN, Nat.mod_one]⟩
  intro p h
  (repeat (with_reducible refine G_seq ?_))
  refine G_region ?_
  refine GL_y rfl rfl (Y_move rfl) ?_
  refine GL_y rfl rfl (Y_move rfl) ?_
  refine GL_y rfl rfl (Y_len sl48 rfl) ?_
  refine GL_y rfl rfl (Y_lssN rfl rfl) ?_
  refine GL_nil ?_
  (repeat (first | (with_reducible refine R_seq ?_) | (with_reducible refine R_block_normal ?_)))
  (repeat (with_reducible refine G_seq ?_))
  refine G_cond_dec rfl (fun ht16 => ?_) (fun ht16 => ?_)
  · -- yes
    (repeat (with_reducible refine G_seq ?_))
    refine G_skip ?_
    (repeat (first | (with_reducible refine R_seq ?_) | (with_reducible refine R_block_normal ?_)))
    (repeat (with_reducible refine G_seq ?_))
    refine G_block ?_
    have hx1 := dgt_lt xs p.i
    have hy1 := dgt_lt ys p.i
    have hc1 := h.hc
    have hi1 := h.hi
    have hl1 := h.hl
    have hlt : p.i < xs.length := ht16
    (repeat (with_reducible refine G_seq ?_))
    refine G_region ?_
    refine GL_y rfl rfl (Y_move rfl) ?_
    refine GL_y rfl rfl (Y_move rfl) ?_
    refine GL_call rfl rfl rfl rfl Try.call48 .nil (fun w hw => at_is (bs := xs) (hs.keep hw (by simp)) rfl) ?_
    rintro _ _ ⟨rfl, rfl⟩
    refine GL_y rfl rfl (Y_move rfl) ?_
    refine GL_y rfl rfl (Y_move rfl) ?_
    refine GL_call rfl rfl rfl rfl Try.call48 .nil (fun w hw => at_is (bs := ys) (ht.keep hw (by simp)) rfl) ?_
    rintro _ _ ⟨rfl, rfl⟩
    refine GL_y rfl rfl ((Y_iop rfl rfl rfl).as _ (rsub_i (by omega) (by omega))) ?_
    refine GL_y rfl rfl (Y_move rfl) ?_
    refine GL_y rfl rfl ((Y_iop rfl rfl rfl).as _ (rsub_j (by omega) (by omega) (by omega))) ?_
    refine GL_y rfl rfl (Y_assign rfl) ?_
    refine GL_nil ?_
    (repeat (first | (with_reducible refine R_seq ?_) | (with_reducible refine R_block_normal ?_)))
    (repeat (with_reducible refine G_seq ?_))
    refine G_region ?_
    refine GL_y rfl rfl (Y_assign rfl) ?_
    refine GL_nil ?_
    (repeat (first | (with_reducible refine R_seq ?_) | (with_reducible refine R_block_normal ?_)))
    (repeat (with_reducible refine G_seq ?_))
    refine G_region ?_
    refine GL_y rfl rfl (Y_move rfl) ?_
    refine GL_y rfl rfl (Y_iop rfl rfl rfl) ?_
    refine GL_nil ?_
    (repeat (first | (with_reducible refine R_seq ?_) | (with_reducible refine R_block_normal ?_)))
    (repeat (with_reducible refine G_seq ?_))
    refine G_cond_dec rfl (fun h29 => ?_) (fun h29 => ?_)
    · -- yes
      have h29 : (dgt xs p.i : Int) - (dgt ys p.i : Int) - (p.c : Int) < 0 := h29
      obtain ⟨d, hd⟩ : ∃ d, d = dgt xs p.i + 256 - dgt ys p.i - p.c := ⟨_, rfl⟩
      obtain ⟨c2, hc2⟩ : ∃ c, c = 1 := ⟨_, rfl⟩
      obtain ⟨k1, k2, k3⟩ := dig_yes h29 hy1 hc1 hd hc2
      (repeat (with_reducible refine G_seq ?_))
      refine G_region ?_
      refine GL_y rfl rfl (Y_move rfl) ?_
      refine GL_y rfl rfl ((Y_iop rfl rfl rfl).as _ (rsub_k (by omega) hy1 hc1 hd)) ?_
      refine GL_y rfl rfl (Y_assign rfl) ?_
      refine GL_nil ?_
      (repeat (first | (with_reducible refine R_seq ?_) | (with_reducible refine R_block_normal ?_)))
      (repeat (with_reducible refine G_seq ?_))
      refine G_region ?_
      refine GL_y rfl rfl (Y_assign rfl) ?_
      refine GL_nil ?_
      (repeat (first | (with_reducible refine R_seq ?_) | (with_reducible refine R_block_normal ?_)))
      (repeat (with_reducible refine G_seq ?_))
      refine G_region ?_
      refine GL_set 8 (.int .i64 (d : Int)) rfl (by first | rfl | exact rsub_l h29 hd) ?_
      refine GL_set 6 (.int .i64 (c2 : Int)) rfl (by rw [hc2]; rfl) ?_
      refine GL_y rfl rfl (Y_move rfl) ?_
      refine GL_y rfl rfl (Y_move rfl) ?_
      refine GL_y rfl rfl (Y_byteN Try.underlying3 Try.underlying5 rfl) ?_
      refine GL_w rfl rfl (W_bs (B [UInt8.ofNat d]) Try.underlying48 te8 (all_B _) (by simp [B]) (by simp [B]) rfl rfl fun b35 => ?_)
      refine GL_w rfl rfl (W_appOB ([UInt8.ofNat d]) h.hO (by repeat (first | exact .nil | exact Pick.rfl' _ | exact Pick.skip (Pick.rfl' _) | exact Pick.skip (Pick.skip (Pick.rfl' _)) | (apply Pick.cons; focus (repeat (first | exact .head | apply Rem.tail))))) rfl rfl rfl rfl (by simp) (fun w s => SlAt.mk' (s.cells (by repeat (first | exact .head _ | apply List.Mem.tail)))) (by simp only [List.length_cons, List.length_nil]; omega) fun b36 c36 h36 => ?_)
      refine GL_y rfl rfl (Y_assign rfl) ?_
      refine GL_nil ?_
      (repeat (first | (with_reducible refine R_seq ?_) | (with_reducible refine R_block_normal ?_)))
      (repeat (with_reducible refine G_seq ?_))
      refine G_region ?_
      refine GL_y rfl rfl (Y_move rfl) ?_
      refine GL_y rfl rfl (Y_addN (b := 1) rfl rfl (by first | omega | decide)) ?_
      refine GL_y rfl rfl (Y_assign rfl) ?_
      refine GL_nil ?_
      (repeat (first | (with_reducible refine R_seq ?_) | (with_reducible refine R_block_normal ?_)))
      (repeat (with_reducible refine R_block_normal ?_))
      refine R_fam ⟨p.i + 1, c2, p.bs ++ [UInt8.ofNat d], some ⟨b36, 0, none⟩, c36, [⟨b36, 5, c36 * 1, B (p.bs ++ [UInt8.ofNat d]), (0, 0)⟩]⟩ ?_ (⟨by first | rfl | decide, by first | rfl | decide, by first | rfl | decide, by first | rfl | decide, by first | rfl | decide, trivial⟩) (by repeat (first | exact .nil | exact Pick.rfl' _ | exact Pick.skip (Pick.rfl' _) | exact Pick.skip (Pick.skip (Pick.rfl' _)) | (apply Pick.cons; focus (repeat (first | exact .head | apply Rem.tail)))))
      exact ⟨SI.next h hlt k1 k2 k3 (.some h36), by simp only; omega⟩
    · -- no
      have h29 : ¬ (dgt xs p.i : Int) - (dgt ys p.i : Int) - (p.c : Int) < 0 := h29
      obtain ⟨d, hd⟩ : ∃ d, d = dgt xs p.i - dgt ys p.i - p.c := ⟨_, rfl⟩
      obtain ⟨c2, hc2⟩ : ∃ c, c = 0 := ⟨_, rfl⟩
      obtain ⟨k1, k2, k3⟩ := dig_no h29 hx1 hd hc2
      (repeat (with_reducible refine G_seq ?_))
      refine G_skip ?_
      (repeat (first | (with_reducible refine R_seq ?_) | (with_reducible refine R_block_normal ?_)))
      (repeat (with_reducible refine G_seq ?_))
      refine G_region ?_
      refine GL_set 8 (.int .i64 (d : Int)) rfl (by first | rfl | exact rsub_l h29 hd) ?_
      refine GL_set 6 (.int .i64 (c2 : Int)) rfl (by rw [hc2]; rfl) ?_
      refine GL_y rfl rfl (Y_move rfl) ?_
      refine GL_y rfl rfl (Y_move rfl) ?_
      refine GL_y rfl rfl (Y_byteN Try.underlying3 Try.underlying5 rfl) ?_
      refine GL_w rfl rfl (W_bs (B [UInt8.ofNat d]) Try.underlying48 te8 (all_B _) (by simp [B]) (by simp [B]) rfl rfl fun b35 => ?_)
      refine GL_w rfl rfl (W_appOB ([UInt8.ofNat d]) h.hO (by repeat (first | exact .nil | exact Pick.rfl' _ | exact Pick.skip (Pick.rfl' _) | exact Pick.skip (Pick.skip (Pick.rfl' _)) | (apply Pick.cons; focus (repeat (first | exact .head | apply Rem.tail))))) rfl rfl rfl rfl (by simp) (fun w s => SlAt.mk' (s.cells (by repeat (first | exact .head _ | apply List.Mem.tail)))) (by simp only [List.length_cons, List.length_nil]; omega) fun b36 c36 h36 => ?_)
      refine GL_y rfl rfl (Y_assign rfl) ?_
      refine GL_nil ?_
      (repeat (first | (with_reducible refine R_seq ?_) | (with_reducible refine R_block_normal ?_)))
      (repeat (with_reducible refine G_seq ?_))
      refine G_region ?_
      refine GL_y rfl rfl (Y_move rfl) ?_
      refine GL_y rfl rfl (Y_addN (b := 1) rfl rfl (by first | omega | decide)) ?_
      refine GL_y rfl rfl (Y_assign rfl) ?_
      refine GL_nil ?_
      (repeat (first | (with_reducible refine R_seq ?_) | (with_reducible refine R_block_normal ?_)))
      (repeat (with_reducible refine R_block_normal ?_))
      refine R_fam ⟨p.i + 1, c2, p.bs ++ [UInt8.ofNat d], some ⟨b36, 0, none⟩, c36, [⟨b36, 5, c36 * 1, B (p.bs ++ [UInt8.ofNat d]), (0, 0)⟩]⟩ ?_ (⟨by first | rfl | decide, by first | rfl | decide, by first | rfl | decide, by first | rfl | decide, by first | rfl | decide, trivial⟩) (by repeat (first | exact .nil | exact Pick.rfl' _ | exact Pick.skip (Pick.rfl' _) | exact Pick.skip (Pick.skip (Pick.rfl' _)) | (apply Pick.cons; focus (repeat (first | exact .head | apply Rem.tail)))))
      exact ⟨SI.next h hlt k1 k2 k3 (.some h36), by simp only; omega⟩
  · -- no
    (repeat (with_reducible refine G_seq ?_))
    refine G_exit ?_
    (repeat (first | (with_reducible refine R_then_exit ?_) | (with_reducible refine R_block_exit ?_) | (with_reducible refine R_block_other (by decide) ?_)))
    (repeat (first | (with_reducible refine R_seq ?_) | (with_reducible refine R_block_normal ?_)))
    have hi1 := h.hi
    have hl1 := h.hl
    have hnlt : ¬ p.i < xs.length := ht16
    (repeat (with_reducible refine G_seq ?_))
    refine G_region ?_
    refine GL_y rfl rfl (Y_move rfl) ?_
    refine GL_call rfl rfl rfl rfl Try.call49 .nil (fun w hw => norm_is (bs := p.bs) (OB.at h.hO (by repeat (first | exact .nil | exact Pick.rfl' _ | exact Pick.skip (Pick.rfl' _) | exact Pick.skip (Pick.skip (Pick.rfl' _)) | (apply Pick.cons; focus (repeat (first | exact .head | apply Rem.tail))))) hw) rfl (OB.cap h.hO) (by omega)) ?_
    rintro _ N9 ⟨rs, ao9, c9, rfl, hO9, hv9, hz9⟩
    refine GL_y rfl rfl (Y_assign rfl) ?_
    refine GL_nil ?_
    (repeat (first | (with_reducible refine R_seq ?_) | (with_reducible refine R_block_normal ?_)))
    (repeat (with_reducible refine G_seq ?_))
    refine G_ret ?_
    (repeat (first | (with_reducible refine R_then_ret ?_) | (with_reducible refine R_block_ret ?_)))
    have hv0 : leN p.bs = v := by rw [SI.done h (by omega) hle, hv]
    refine R_ret (.tmp rfl .nil) N9 (Pick.pre _ _) ⟨rs, ao9, c9, rfl, hO9, hv9.trans hv0, hz9⟩
set_option maxHeartbeats 4000000 in
theorem rmul_e {ao bo : Option Addr} {ca cb : Nat} {w : World} : FnAt Try.prog 50 [.slice ao 0 ca, .slice bo 1 cb] [] w (Ret fun r N => NB 0 r N) := by
  refine FnAt.intro Try.func50 rfl Try.ntmps50 rfl _ rfl ?_
  (repeat (with_reducible refine G_seq ?_))
  refine G_region ?_
  refine GL_y rfl rfl (Y_assign rfl) ?_
  refine GL_nil ?_
  (repeat (first | (with_reducible refine R_seq ?_) | (with_reducible refine R_block_normal ?_)))
  (repeat (with_reducible refine G_seq ?_))
  refine G_region ?_
  refine GL_y rfl rfl (Y_move rfl) ?_
  refine GL_y rfl rfl (Y_len sl48 rfl) ?_
  refine GL_y rfl rfl (Y_move rfl) ?_
  refine GL_y rfl rfl (Y_len sl48 rfl) ?_
  refine GL_y rfl rfl (Y_iop rfl rfl rfl) ?_
  refine GL_y rfl rfl (Y_iop rfl rfl rfl) ?_
  refine GL_w rfl rfl (W_makeB (m := 2) Try.underlying48 (by kernel_rfl) rfl rfl (by decide) fun b16 => ?_)
  refine GL_y rfl rfl (Y_assign rfl) ?_
  refine GL_nil ?_
  (repeat (first | (with_reducible refine R_seq ?_) | (with_reducible refine R_block_normal ?_)))
  (repeat (with_reducible refine G_seq ?_))
  refine G_region ?_
  refine GL_y rfl rfl (Y_assign rfl) ?_
  refine GL_nil ?_
  (repeat (first | (with_reducible refine R_seq ?_) | (with_reducible refine R_block_normal ?_)))
  (repeat (with_reducible refine G_seq ?_))
  refine G_block ?_
  (repeat (with_reducible refine G_seq ?_))
  refine G_rounds 0 ?_
  -- round 0 of loop 0
  (repeat (with_reducible refine G_seq ?_))
  refine G_region ?_
  refine GL_y rfl rfl (Y_move rfl) ?_
  refine GL_y rfl rfl (Y_move rfl) ?_
  refine GL_y rfl rfl (Y_len sl48 rfl) ?_
  refine GL_y rfl rfl (Y_iop rfl rfl rfl) ?_
  refine GL_nil ?_
  (repeat (first | (with_reducible refine R_seq ?_) | (with_reducible refine R_block_normal ?_)))
  (repeat (with_reducible refine G_seq ?_))
  refine G_cond_f rfl (by first | rfl | decide) ?_
  (repeat (with_reducible refine G_seq ?_))
  refine G_exit ?_
  (repeat (first | (with_reducible refine R_then_exit ?_) | (with_reducible refine R_block_exit ?_) | (with_reducible refine R_block_other (by decide) ?_)))
  (repeat (first | (with_reducible refine R_seq ?_) | (with_reducible refine R_block_normal ?_)))
  (repeat (with_reducible refine G_seq ?_))
  refine G_region ?_
  refine GL_y rfl rfl (Y_move rfl) ?_
  refine GL_call rfl rfl rfl rfl Try.call49 .nil (fun w hw => norm_is (bs := List.replicate 2 0) (SlAt.mk' (hw.cells (k := ⟨b16, 5, 2 * 1, B (List.replicate 2 0), (0, 0)⟩) (by repeat (first | exact .head _ | apply List.Mem.tail)))) rfl (Nat.le_refl _) (by decide)) ?_
  rintro _ N9 ⟨rs, ao9, c9, rfl, hO9, hv9, hz9⟩
  refine GL_y rfl rfl (Y_assign rfl) ?_
  refine GL_nil ?_
  (repeat (first | (with_reducible refine R_seq ?_) | (with_reducible refine R_block_normal ?_)))
  (repeat (with_reducible refine G_seq ?_))
  refine G_ret ?_
  (repeat (first | (with_reducible refine R_then_ret ?_) | (with_reducible refine R_block_ret ?_)))
  refine R_ret (.tmp rfl .nil) N9 (Pick.pre _ _) ⟨rs, ao9, c9, rfl, hO9, hv9.trans (rfl), hz9⟩
set_option maxHeartbeats 4000000 in
theorem rmul_19 {ao bo : Option Addr} {ca cb : Nat} {w : World} (hs : SlAt w ao (B [1])) (ht : SlAt w bo (B [19])) : FnAt Try.prog 50 [.slice ao 1 ca, .slice bo 1 cb] [] w (Ret fun r N => NB 19 r N) := by
  refine FnAt.intro Try.func50 rfl Try.ntmps50 rfl _ rfl ?_
  (repeat (with_reducible refine G_seq ?_))
  refine G_region ?_
  refine GL_y rfl rfl (Y_assign rfl) ?_
  refine GL_nil ?_
  (repeat (first | (with_reducible refine R_seq ?_) | (with_reducible refine R_block_normal ?_)))
  (repeat (with_reducible refine G_seq ?_))
  refine G_region ?_
  refine GL_y rfl rfl (Y_move rfl) ?_
  refine GL_y rfl rfl (Y_len sl48 rfl) ?_
  refine GL_y rfl rfl (Y_move rfl) ?_
  refine GL_y rfl rfl (Y_len sl48 rfl) ?_
  refine GL_y rfl rfl (Y_iop rfl rfl rfl) ?_
  refine GL_y rfl rfl (Y_iop rfl rfl rfl) ?_
  refine GL_w rfl rfl (W_makeB (m := 3) Try.underlying48 (by kernel_rfl) rfl rfl (by decide) fun b16 => ?_)
  refine GL_y rfl rfl (Y_assign rfl) ?_
  refine GL_nil ?_
  (repeat (first | (with_reducible refine R_seq ?_) | (with_reducible refine R_block_normal ?_)))
  (repeat (with_reducible refine G_seq ?_))
  refine G_region ?_
  refine GL_y rfl rfl (Y_assign rfl) ?_
  refine GL_nil ?_
  (repeat (first | (with_reducible refine R_seq ?_) | (with_reducible refine R_block_normal ?_)))
  (repeat (with_reducible refine G_seq ?_))
  refine G_block ?_
  (repeat (with_reducible refine G_seq ?_))
  refine G_rounds 1 ?_
  -- round 0 of loop 0
  (repeat (with_reducible refine G_seq ?_))
  refine G_region ?_
  refine GL_y rfl rfl (Y_move rfl) ?_
  refine GL_y rfl rfl (Y_move rfl) ?_
  refine GL_y rfl rfl (Y_len sl48 rfl) ?_
  refine GL_y rfl rfl (Y_iop rfl rfl rfl) ?_
  refine GL_nil ?_
  (repeat (first | (with_reducible refine R_seq ?_) | (with_reducible refine R_block_normal ?_)))
  (repeat (with_reducible refine G_seq ?_))
  refine G_cond_t rfl (by first | rfl | decide) ?_
  (repeat (with_reducible refine G_seq ?_))
  refine G_skip ?_
  (repeat (first | (with_reducible refine R_seq ?_) | (with_reducible refine R_block_normal ?_)))
  (repeat (with_reducible refine G_seq ?_))
  refine G_block ?_
  (repeat (with_reducible refine G_seq ?_))
  refine G_region ?_
  refine GL_y rfl rfl (Y_assign rfl) ?_
  refine GL_nil ?_
  (repeat (first | (with_reducible refine R_seq ?_) | (with_reducible refine R_block_normal ?_)))
  (repeat (with_reducible refine G_seq ?_))
  refine G_region ?_
  refine GL_y rfl rfl (Y_assign rfl) ?_
  refine GL_nil ?_
  (repeat (first | (with_reducible refine R_seq ?_) | (with_reducible refine R_block_normal ?_)))
  (repeat (with_reducible refine G_seq ?_))
  refine G_block ?_
  (repeat (with_reducible refine G_seq ?_))
  refine G_rounds 1 ?_
  -- round 0 of loop 1
  (repeat (with_reducible refine G_seq ?_))
  refine G_region ?_
  refine GL_y rfl rfl (Y_move rfl) ?_
  refine GL_y rfl rfl (Y_move rfl) ?_
  refine GL_y rfl rfl (Y_len sl48 rfl) ?_
  refine GL_y rfl rfl (Y_iop rfl rfl rfl) ?_
  refine GL_y rfl rfl (Y_move rfl) ?_
  refine GL_skip rfl rfl ?_
  refine GL_skip rfl rfl ?_
  refine GL_y rfl rfl (Y_pick rfl rfl rfl rfl) ?_
  refine GL_nil ?_
  (repeat (first | (with_reducible refine R_seq ?_) | (with_reducible refine R_block_normal ?_)))
  (repeat (with_reducible refine G_seq ?_))
  refine G_cond_t rfl (by first | rfl | decide) ?_
  (repeat (with_reducible refine G_seq ?_))
  refine G_skip ?_
  (repeat (first | (with_reducible refine R_seq ?_) | (with_reducible refine R_block_normal ?_)))
  (repeat (with_reducible refine G_seq ?_))
  refine G_block ?_
  (repeat (with_reducible refine G_seq ?_))
  refine G_draw [] 20 rfl (by kernel_rfl) ?_
  refine GA_y 0 rfl (by kernel_rfl) (by kernel_rfl) (by kernel_rfl) (fun _ _ _ h => h) rfl rfl rfl (Y_move rfl) ?_
  refine GA_y 1 rfl (by kernel_rfl) (by kernel_rfl) (by kernel_rfl) (fun _ _ _ h => h) rfl rfl rfl (Y_move rfl) ?_
  refine GA_y 2 rfl (by kernel_rfl) (by kernel_rfl) (by kernel_rfl) (fun _ _ _ h => h) rfl rfl rfl (Y_move rfl) ?_
  refine GA_y 3 rfl (by kernel_rfl) (by kernel_rfl) (by kernel_rfl) (fun _ _ _ h => h) rfl rfl rfl (Y_iop rfl rfl rfl) ?_
  refine GA_y 4 rfl (by kernel_rfl) (by kernel_rfl) (by kernel_rfl) (fun _ _ _ h => h) rfl rfl rfl (Y_idxS1 (j := 0) sl8 rfl rfl rfl (by decide)) ?_
  refine GA_l 5 rfl (by kernel_rfl) (by kernel_rfl) (by kernel_rfl) (fun _ _ _ h => h) rfl rfl rfl rfl (Y_loadS (v := bv 0) rfl sc8 (by repeat (first | exact .head _ | apply List.Mem.tail)) rfl) ?_
  refine GA_y 6 rfl (by kernel_rfl) (by kernel_rfl) (by kernel_rfl) (fun _ _ _ h => h) rfl rfl rfl (Y_ofByte Try.underlying5 Try.underlying3 (by decide) rfl) ?_
  refine GA_y 7 rfl (by kernel_rfl) (by kernel_rfl) (by kernel_rfl) (fun _ _ _ h => h) rfl rfl rfl (Y_move rfl) ?_
  refine GA_y 8 rfl (by kernel_rfl) (by kernel_rfl) (by kernel_rfl) (fun _ _ _ h => h) rfl rfl rfl (Y_move rfl) ?_
  refine GA_y 9 rfl (by kernel_rfl) (by kernel_rfl) (by kernel_rfl) (fun _ _ _ h => h) rfl rfl rfl (Y_bAt (j := 0) hs rfl rfl (by decide) rfl) ?_
  refine GA_y 10 rfl (by kernel_rfl) (by kernel_rfl) (by kernel_rfl) (fun _ _ _ h => h) rfl rfl rfl (Y_bGet (j := 0) hs (by simp) rfl (by decide)) ?_
  refine GA_y 11 rfl (by kernel_rfl) (by kernel_rfl) (by kernel_rfl) (fun _ _ _ h => h) rfl rfl rfl (Y_ofByte Try.underlying5 Try.underlying3 (by decide) rfl) ?_
  refine GA_y 12 rfl (by kernel_rfl) (by kernel_rfl) (by kernel_rfl) (fun _ _ _ h => h) rfl rfl rfl (Y_move rfl) ?_
  refine GA_y 13 rfl (by kernel_rfl) (by kernel_rfl) (by kernel_rfl) (fun _ _ _ h => h) rfl rfl rfl (Y_move rfl) ?_
  refine GA_y 17 rfl (by kernel_rfl) (by kernel_rfl) (by kernel_rfl) (fun _ _ _ h => h) rfl rfl rfl (Y_move rfl) ?_
  refine GA_one 14 (by kernel_rfl) ?_
  refine GO_call rfl rfl rfl rfl rfl rfl Try.call48 (fun w hw => at_is (i := 0) (bs := [19]) (ht.keep hw (by simp)) rfl) ?_
  rintro _ _ ⟨rfl, rfl⟩
  refine GA_y 15 rfl (by kernel_rfl) (by kernel_rfl) (by kernel_rfl) (fun _ _ _ h => h) rfl rfl rfl (Y_iop (v := .int .i64 19) rfl rfl rfl) ?_
  refine GA_y 16 rfl (by kernel_rfl) (by kernel_rfl) (by kernel_rfl) (fun _ _ _ h => h) rfl rfl rfl (Y_iop (v := .int .i64 19) rfl rfl rfl) ?_
  refine GA_y 18 rfl (by kernel_rfl) (by kernel_rfl) (by kernel_rfl) (fun _ _ _ h => h) rfl rfl rfl (Y_iop (v := .int .i64 19) rfl rfl rfl) ?_
  refine GA_y 19 rfl (by kernel_rfl) (by kernel_rfl) (by kernel_rfl) (fun _ _ _ h => h) rfl rfl rfl (Y_assign rfl) ?_
  refine GA_done (by kernel_rfl) ?_
  (repeat (first | (with_reducible refine R_seq ?_) | (with_reducible refine R_block_normal ?_)))
  (repeat (with_reducible refine G_seq ?_))
  refine G_region ?_
  refine GL_y rfl rfl (Y_move rfl) ?_
  refine GL_y rfl rfl (Y_move rfl) ?_
  refine GL_y rfl rfl (Y_move rfl) ?_
  refine GL_y rfl rfl (Y_iop rfl rfl rfl) ?_
  refine GL_y rfl rfl (Y_move rfl) ?_
  refine GL_y rfl rfl (Y_remN (a := 19) (b := 256) rfl rfl (by decide)) ?_
  refine GL_y rfl rfl ((Y_byteN Try.underlying3 Try.underlying5 rfl).as (bv 19) rfl) ?_
  refine GL_y rfl rfl (Y_idxS1 (j := 0) sl8 rfl rfl rfl (by decide)) ?_
  refine GL_s rfl (S_sc (xs' := B [19, 0, 0]) rfl sc8 rfl rfl (by repeat (first | exact .head | apply Rem.tail)) rfl) ?_
  refine GL_nil ?_
  (repeat (first | (with_reducible refine R_seq ?_) | (with_reducible refine R_block_normal ?_)))
  (repeat (with_reducible refine G_seq ?_))
  refine G_region ?_
  refine GL_y rfl rfl (Y_move rfl) ?_
  refine GL_y rfl rfl ((Y_quoN (a := 19) (b := 256) rfl rfl (by decide) (by decide)).as (.int .i64 0) rfl) ?_
  refine GL_y rfl rfl (Y_assign rfl) ?_
  refine GL_nil ?_
  (repeat (first | (with_reducible refine R_seq ?_) | (with_reducible refine R_block_normal ?_)))
  (repeat (with_reducible refine G_seq ?_))
  refine G_region ?_
  refine GL_y rfl rfl (Y_move rfl) ?_
  refine GL_y rfl rfl (Y_iop rfl rfl rfl) ?_
  refine GL_y rfl rfl (Y_assign rfl) ?_
  refine GL_nil ?_
  (repeat (first | (with_reducible refine R_seq ?_) | (with_reducible refine R_block_normal ?_)))
  (repeat (first | (with_reducible refine R_block_normal ?_) | (with_reducible refine R_round ?_)))
  -- round 1 of loop 1
  (repeat (with_reducible refine G_seq ?_))
  refine G_region ?_
  refine GL_y rfl rfl (Y_move rfl) ?_
  refine GL_y rfl rfl (Y_move rfl) ?_
  refine GL_y rfl rfl (Y_len sl48 rfl) ?_
  refine GL_y rfl rfl (Y_iop rfl rfl rfl) ?_
  refine GL_y rfl rfl (Y_move rfl) ?_
  refine GL_y rfl rfl (Y_move rfl) ?_
  refine GL_y rfl rfl (Y_iop rfl rfl rfl) ?_
  refine GL_y rfl rfl (Y_pick rfl rfl rfl rfl) ?_
  refine GL_nil ?_
  (repeat (first | (with_reducible refine R_seq ?_) | (with_reducible refine R_block_normal ?_)))
  (repeat (with_reducible refine G_seq ?_))
  refine G_cond_f rfl (by first | rfl | decide) ?_
  (repeat (with_reducible refine G_seq ?_))
  refine G_exit ?_
  (repeat (first | (with_reducible refine R_then_exit ?_) | (with_reducible refine R_block_exit ?_) | (with_reducible refine R_block_other (by decide) ?_)))
  (repeat (first | (with_reducible refine R_seq ?_) | (with_reducible refine R_block_normal ?_)))
  (repeat (with_reducible refine G_seq ?_))
  refine G_region ?_
  refine GL_y rfl rfl (Y_move rfl) ?_
  refine GL_y rfl rfl (Y_iop rfl rfl rfl) ?_
  refine GL_y rfl rfl (Y_assign rfl) ?_
  refine GL_nil ?_
  (repeat (first | (with_reducible refine R_seq ?_) | (with_reducible refine R_block_normal ?_)))
  (repeat (first | (with_reducible refine R_block_normal ?_) | (with_reducible refine R_round ?_)))
  -- round 1 of loop 0
  (repeat (with_reducible refine G_seq ?_))
  refine G_region ?_
  refine GL_y rfl rfl (Y_move rfl) ?_
  refine GL_y rfl rfl (Y_move rfl) ?_
  refine GL_y rfl rfl (Y_len sl48 rfl) ?_
  refine GL_y rfl rfl (Y_iop rfl rfl rfl) ?_
  refine GL_nil ?_
  (repeat (first | (with_reducible refine R_seq ?_) | (with_reducible refine R_block_normal ?_)))
  (repeat (with_reducible refine G_seq ?_))
  refine G_cond_f rfl (by first | rfl | decide) ?_
  (repeat (with_reducible refine G_seq ?_))
  refine G_exit ?_
  (repeat (first | (with_reducible refine R_then_exit ?_) | (with_reducible refine R_block_exit ?_) | (with_reducible refine R_block_other (by decide) ?_)))
  (repeat (first | (with_reducible refine R_seq ?_) | (with_reducible refine R_block_normal ?_)))
  (repeat (with_reducible refine G_seq ?_))
  refine G_region ?_
  refine GL_y rfl rfl (Y_move rfl) ?_
  refine GL_call rfl rfl rfl rfl Try.call49 .nil (fun w hw => norm_is (bs := [19, 0, 0]) (SlAt.mk' (hw.cells (k := ⟨b16, 5, 3 * 1, B ([19, 0, 0]), (0, 0)⟩) (by repeat (first | exact .head _ | apply List.Mem.tail)))) rfl (Nat.le_refl _) (by decide)) ?_
  rintro _ N9 ⟨rs, ao9, c9, rfl, hO9, hv9, hz9⟩
  refine GL_y rfl rfl (Y_assign rfl) ?_
  refine GL_nil ?_
  (repeat (first | (with_reducible refine R_seq ?_) | (with_reducible refine R_block_normal ?_)))
  (repeat (with_reducible refine G_seq ?_))
  refine G_ret ?_
  (repeat (first | (with_reducible refine R_then_ret ?_) | (with_reducible refine R_block_ret ?_)))
  refine R_ret (.tmp rfl .nil) N9 (Pick.pre _ _) ⟨rs, ao9, c9, rfl, hO9, hv9.trans (rfl), hz9⟩
end Go.Proofs.Ytefphcpaakhfbaa

/-
  The reference's Round.
-/
import Derived.Test.YtefphcpaakhfbaaLC
import Derived.Test.YtefphcpaakhfbaaL5
namespace Go.Proofs.Ytefphcpaakhfbaa
open Go Go.Sl Go.RowKit Go.Fp


set_option maxHeartbeats 4000000 in
theorem round_is {ao : Option Addr} {l c v : Nat} {bs : List UInt8} {w : World} (hs : SlAt w ao (B bs)) (hl : l = bs.length) (hc : bs.length ≤ c) (hbig : bs.length ≤ 100000) (hx : leN bs < w256) (hv : leN bs % P = v) : FnAt Try.prog 35 [.slice ao l c] [] w (Ret fun r N => NB v r N) := by
  refine FnAt.intro Try.func35 rfl Try.ntmps35 rfl _ rfl ?_
  (repeat (with_reducible refine G_seq ?_))
  refine G_region ?_
  refine GL_y rfl rfl (Y_assign rfl) ?_
  refine GL_nil ?_
  (repeat (first | (with_reducible refine R_seq ?_) | (with_reducible refine R_block_normal ?_)))
  (repeat (with_reducible refine G_seq ?_))
  refine G_region ?_
  refine GL_y rfl rfl (Y_move rfl) ?_
  refine GL_call rfl rfl rfl rfl Try.call49 .nil (fun w hw => norm_is (hs.keep hw (by simp)) hl hc hbig) ?_
  rintro _ N9 ⟨rs9, ao9, c9, rfl, hO9, hv9, hz9⟩
  refine GL_y rfl rfl (Y_assign rfl) ?_
  refine GL_nil ?_
  (repeat (first | (with_reducible refine R_seq ?_) | (with_reducible refine R_block_normal ?_)))
  (repeat (with_reducible refine G_seq ?_))
  refine G_block ?_
  (repeat (with_reducible refine G_seq ?_))
  refine G_loop (ι := RI) (fun p => leN p.rs) (fun p => OB p.rs p.ao p.c p.N ∧ leN p.rs % P = v ∧ NZ p.rs ∧ leN p.rs < w256) (fun p => [(0, .slice p.ao p.rs.length p.c)]) (fun p => p.N) ⟨rs9, ao9, c9, N9⟩ ?_ (⟨by first | rfl | decide, trivial⟩) (by exact Pick.pre _ _) ?_
  · exact ⟨hO9, by rw [hv9, hv], hz9, by rw [hv9]; exact hx⟩
  intro p hI
  obtain ⟨rs, ao, c, N⟩ := p
  obtain ⟨hO, hv, hz, hlt⟩ := hI
  simp only at hO hv hz hlt
  have hlen : rs.length ≤ 32 := hz.len (by rw [p256]; exact hlt)
  show G Try.prog _ _ _ _ _ _ [(0, .slice ao rs.length c)] N
  (repeat (with_reducible refine G_seq ?_))
  refine G_region ?_
  refine GL_y rfl rfl (Y_move rfl) ?_
  refine GL_y rfl rfl (Y_len sl48 rfl) ?_
  refine GL_y rfl rfl ((Y_gtrN (b := 32) rfl rfl).as (.bool false) (congrArg Value.bool (decide_eq_false (by omega)))) ?_
  refine GL_y rfl rfl (Y_move rfl) ?_
  refine GL_y rfl rfl (Y_move rfl) ?_
  refine GL_y rfl rfl (Y_len sl48 rfl) ?_
  refine GL_y rfl rfl (Y_eqlN (b := 32) rfl rfl) ?_
  refine GL_y rfl rfl (Y_move rfl) ?_
  refine GL_bool 15 rfl (fun g15 => ?_) (fun g15 => ?_)
  · -- g15 True
    have hl32 : rs.length = 32 := of_decide_eq_true g15
    have hcap := hO.cap
    obtain ⟨b0, rfl, rfl⟩ := hO.pos (by omega)
    refine GL_y rfl rfl (Y_move rfl) ?_
    refine GL_y rfl rfl (Y_idxS1 (j := 31) sl8 rfl rfl rfl (by omega)) ?_
    refine GL_y rfl rfl (Y_loadS rfl sc8 (by repeat (first | exact .head _ | apply List.Mem.tail)) (nth_B0 (i := 31) (by omega))) ?_
    refine GL_y rfl rfl (Y_gtrN (b := 127) rfl rfl) ?_
    refine GL_y rfl rfl (Y_pick rfl rfl rfl rfl) ?_
    refine GL_y rfl rfl (Y_pick rfl rfl rfl rfl) ?_
    refine GL_nil ?_
    (repeat (first | (with_reducible refine R_seq ?_) | (with_reducible refine R_block_normal ?_)))
    (repeat (with_reducible refine G_seq ?_))
    refine G_cond_dec rfl (fun h21 => ?_) (fun h21 => ?_)
    · -- yes
      (repeat (with_reducible refine G_seq ?_))
      refine G_skip ?_
      (repeat (first | (with_reducible refine R_seq ?_) | (with_reducible refine R_block_normal ?_)))
      (repeat (with_reducible refine G_seq ?_))
      refine G_block ?_
      (repeat (with_reducible refine G_seq ?_))
      refine G_region ?_
      refine GL_y rfl rfl (Y_assign rfl) ?_
      refine GL_nil ?_
      (repeat (first | (with_reducible refine R_seq ?_) | (with_reducible refine R_block_normal ?_)))
      (repeat (with_reducible refine G_seq ?_))
      refine G_region ?_
      refine GL_y rfl rfl (Y_move rfl) ?_
      refine GL_y rfl rfl (Y_move rfl) ?_
      refine GL_y rfl rfl (Y_upto (i := 32) rfl rfl (by omega) hcap) ?_
      refine GL_w rfl rfl (W_appNilB rs Try.underlying48 te8 rfl rfl hl32 (by omega) (fun w s => by have h := subB (SlAt.mk' (s.cells (k := ⟨b0, 5, c * 1, B rs, (0, 0)⟩) (by repeat (first | exact .head _ | apply List.Mem.tail)))) hcap (lo := 0) 32; rwa [List.drop_zero, List.take_of_length_le (by omega)] at h) (by omega) fun b25 c25 h25 => ?_)
      refine GL_y rfl rfl (Y_assign rfl) ?_
      refine GL_nil ?_
      (repeat (first | (with_reducible refine R_seq ?_) | (with_reducible refine R_block_normal ?_)))
      (repeat (with_reducible refine G_seq ?_))
      refine G_region ?_
      refine GL_y rfl rfl (Y_move rfl) ?_
      refine GL_y rfl rfl (Y_idxS1 (j := 31) sl8 rfl rfl rfl (by omega)) ?_
      refine GL_y rfl rfl (Y_loadS rfl sc8 (by repeat (first | exact .head _ | apply List.Mem.tail)) (nth_B0 (i := 31) (by omega))) ?_
      refine GL_y rfl rfl ((quo8 (b := 128) rfl rfl (by decide)).as _ (top_one h21)) ?_
      refine GL_y rfl rfl (Y_assign rfl) ?_
      refine GL_nil ?_
      (repeat (first | (with_reducible refine R_seq ?_) | (with_reducible refine R_block_normal ?_)))
      (repeat (with_reducible refine G_seq ?_))
      refine G_region ?_
      refine GL_y rfl rfl (Y_move rfl) ?_
      refine GL_y rfl rfl (Y_move rfl) ?_
      refine GL_y rfl rfl (Y_idxS1 (j := 31) sl8 rfl rfl rfl (by omega)) ?_
      refine GL_y rfl rfl (Y_loadS rfl sc8 (by repeat (first | exact .head _ | apply List.Mem.tail)) (nth_B0 (i := 31) (by omega))) ?_
      refine GL_y rfl rfl ((Y_remK (b := 128) rfl rfl (by decide)).as _ (low_u _)) ?_
      refine GL_y rfl rfl (Y_idxS1 (j := 31) sl8 rfl rfl rfl (by omega)) ?_
      refine GL_s rfl (S_sc rfl sc8 rfl rfl (by repeat (first | exact .head | apply Rem.tail)) (setL_B0 (i := 31) (by omega) _)) ?_
      refine GL_nil ?_
      (repeat (first | (with_reducible refine R_seq ?_) | (with_reducible refine R_block_normal ?_)))
      (repeat (with_reducible refine G_seq ?_))
      refine G_region ?_
      refine GL_w rfl rfl (W_bs (B [0]) Try.underlying48 te8 (all_B _) (by simp [B]) (by simp [B]) rfl rfl fun b36 => ?_)
      refine GL_y rfl rfl (Y_assign rfl) ?_
      refine GL_nil ?_
      (repeat (first | (with_reducible refine R_seq ?_) | (with_reducible refine R_block_normal ?_)))
      (repeat (with_reducible refine G_seq ?_))
      refine G_region ?_
      refine GL_y rfl rfl (Y_move rfl) ?_
      refine GL_y rfl rfl ((Y_slS (vl := some _) (vh := none) (kl := 32) (kh := rs.length) sl8 rfl rfl rfl ⟨_, rfl⟩ rfl (by omega) hcap hcap).as (.slice (subA (some ⟨b0, 0, none⟩) c 32 1) 0 (c - 32)) (by rw [hl32])) ?_
      refine GL_w rfl rfl (W_bs (B [2]) Try.underlying48 te8 (all_B _) (by simp [B]) (by simp [B]) rfl rfl fun b39 => ?_)
      refine GL_call rfl rfl rfl rfl Try.call50 .nil (fun w hw => rmul_e) ?_
      rintro _ N8 h
      obtain ⟨ao40, c40, rfl⟩ := NB.zero h
      refine GL_drop (Pick.suf _ _) ?_
      refine GL_y rfl rfl (Y_assign rfl) ?_
      refine GL_nil ?_
      (repeat (first | (with_reducible refine R_seq ?_) | (with_reducible refine R_block_normal ?_)))
      (repeat (with_reducible refine G_seq ?_))
      refine G_region ?_
      refine GL_y rfl rfl (Y_move rfl) ?_
      refine GL_y rfl rfl (Y_move rfl) ?_
      refine GL_w rfl rfl (W_bs (B [1]) Try.underlying48 te8 (all_B _) (by simp [B]) (by simp [B]) rfl rfl fun b43 => ?_)
      refine GL_call rfl rfl rfl rfl Try.call36 .nil (fun w hw => radd_is (xs := []) (ys := [1]) (SlAt.nil _ _) (SlAt.mk' (hw.cells (k := ⟨b43, 5, 1 * 1, B ([1]), (0, 0)⟩) (by repeat (first | exact .head _ | apply List.Mem.tail)))) rfl rfl (by decide) (by decide) (v := (1 : UInt8).toNat) (by decide)) ?_
      rintro _ _ h
      obtain ⟨b44, c44, rfl, rfl⟩ := NB.small 1 h (by decide)
      refine GL_y rfl rfl (Y_assign rfl) ?_
      refine GL_nil ?_
      (repeat (first | (with_reducible refine R_seq ?_) | (with_reducible refine R_block_normal ?_)))
      (repeat (with_reducible refine G_seq ?_))
      refine G_region ?_
      refine GL_y rfl rfl (Y_move rfl) ?_
      refine GL_y rfl rfl (Y_move rfl) ?_
      refine GL_w rfl rfl (W_bs (B [19]) Try.underlying48 te8 (all_B _) (by simp [B]) (by simp [B]) rfl rfl fun b47 => ?_)
      refine GL_call rfl rfl rfl rfl Try.call50 .nil (fun w hw => rmul_19 (SlAt.mk' (hw.cells (k := ⟨b44, 5, c44 * 1, B ([1]), (0, 0)⟩) (by repeat (first | exact .head _ | apply List.Mem.tail)))) (SlAt.mk' (hw.cells (k := ⟨b47, 5, 1 * 1, B ([19]), (0, 0)⟩) (by repeat (first | exact .head _ | apply List.Mem.tail))))) ?_
      rintro _ _ h
      obtain ⟨b48, c48, rfl, rfl⟩ := NB.small 19 h (by decide)
      refine GL_call rfl rfl rfl rfl Try.call36 .nil (fun w hw => radd_is (xs := (rs.set 31 (UInt8.ofNat ((rs[31]'(by omega)).toNat % 128)))) (ys := [19]) (SlAt.mk' (hw.cells (k := ⟨b25, 5, c25 * 1, B ((rs.set 31 (UInt8.ofNat ((rs[31]'(by omega)).toNat % 128)))), (0, 0)⟩) (by repeat (first | exact .head _ | apply List.Mem.tail)))) (SlAt.mk' (hw.cells (k := ⟨b48, 5, c48 * 1, B ([19]), (0, 0)⟩) (by repeat (first | exact .head _ | apply List.Mem.tail)))) (by simp) rfl (by simp; omega) (by decide) rfl) ?_
      rintro _ N49 ⟨rs49, ao49, c49, rfl, hO49, hv49, hz49⟩
      refine GL_y rfl rfl (Y_assign rfl) ?_
      refine GL_nil ?_
      (repeat (first | (with_reducible refine R_seq ?_) | (with_reducible refine R_block_normal ?_)))
      (repeat (with_reducible refine R_block_normal ?_))
      refine R_fam ⟨rs49, ao49, c49, N49⟩ ?_ (⟨by first | rfl | decide, trivial⟩) (by exact Pick.pre _ _)
      obtain ⟨k1, k2, k3⟩ := rnd_next (rnd_set hl32 h21 (low_v _)) hlt
      simp only at hv49 ⊢
      rw [hv49]
      exact ⟨⟨hO49, k1.trans hv, hz49, k2⟩, k3⟩
    · -- no
      have hb : leN rs < P + 19 := rnd_b2 hl32 h21
      (repeat (with_reducible refine G_seq ?_))
      refine G_exit ?_
      (repeat (first | (with_reducible refine R_then_exit ?_) | (with_reducible refine R_block_exit ?_) | (with_reducible refine R_block_other (by decide) ?_)))
      (repeat (first | (with_reducible refine R_seq ?_) | (with_reducible refine R_block_normal ?_)))
      (repeat (with_reducible refine G_seq ?_))
      refine G_block ?_
      (repeat (with_reducible refine G_seq ?_))
      refine G_loop (ι := RI) (fun p => leN p.rs) (fun p => OB p.rs p.ao p.c p.N ∧ leN p.rs % P = v ∧ NZ p.rs ∧ leN p.rs < P + 19) (fun p => [(0, .slice p.ao p.rs.length p.c)]) (fun p => p.N) ⟨rs, some ⟨b0, 0, none⟩, c, [⟨b0, 5, c * 1, B rs, (0, 0)⟩]⟩ ?_ (⟨by first | rfl | decide, trivial⟩) (by repeat (first | exact .nil | exact Pick.rfl' _ | exact Pick.skip (Pick.rfl' _) | exact Pick.skip (Pick.skip (Pick.rfl' _)) | (apply Pick.cons; focus (repeat (first | exact .head | apply Rem.tail))))) ?_
      · first | exact ⟨hO, hv, hz, hb⟩ | exact ⟨.some hcap, hv, hz, hb⟩
      intro p hI
      obtain ⟨hO, hv, hz, hlt⟩ := hI
      have hlen : p.rs.length ≤ 32 := hz.len (by rw [p256]; exact Nat.lt_trans hlt (by decide))
      (repeat (with_reducible refine G_seq ?_))
      refine G_region ?_
      refine GL_y rfl rfl (Y_move rfl) ?_
      refine GL_call rfl rfl rfl rfl Try.call32 .nil (fun w hw => p_is) ?_
      rintro _ _ ⟨b51, c51, rfl, rfl⟩
      refine GL_call rfl rfl rfl rfl Try.call31 .nil (fun w hw => cmpE_is (hO.at (by repeat (first | exact .nil | exact Pick.rfl' _ | exact Pick.skip (Pick.rfl' _) | exact Pick.skip (Pick.skip (Pick.rfl' _)) | (apply Pick.cons; focus (repeat (first | exact .head | apply Rem.tail))))) hw) (SlAt.mk' (hw.cells (k := ⟨b51, 5, c51 * 1, B (pB), (0, 0)⟩) (by repeat (first | exact .head _ | apply List.Mem.tail)))) rfl pB_len.symm (by omega) (by decide)) ?_
      rintro _ _ ⟨rfl, rfl⟩
      rw [pB_N]
      refine GL_y rfl rfl ((Y_iop rfl rfl rfl).as _ (cmp_geq (leN p.rs))) ?_
      refine GL_nil ?_
      (repeat (first | (with_reducible refine R_seq ?_) | (with_reducible refine R_block_normal ?_)))
      (repeat (with_reducible refine G_seq ?_))
      refine G_cond_dec rfl (fun hge => ?_) (fun hge => ?_)
      · -- yes
        (repeat (with_reducible refine G_seq ?_))
        refine G_skip ?_
        (repeat (first | (with_reducible refine R_seq ?_) | (with_reducible refine R_block_normal ?_)))
        (repeat (with_reducible refine G_seq ?_))
        refine G_block ?_
        (repeat (with_reducible refine G_seq ?_))
        refine G_region ?_
        refine GL_y rfl rfl (Y_move rfl) ?_
        refine GL_call rfl rfl rfl rfl Try.call32 .nil (fun w hw => p_is) ?_
        rintro _ _ ⟨b55, c55, rfl, rfl⟩
        refine GL_call rfl rfl rfl rfl Try.call37 .nil (fun w hw => rsub_is (hO.at (by repeat (first | exact .nil | exact Pick.rfl' _ | exact Pick.skip (Pick.rfl' _) | exact Pick.skip (Pick.skip (Pick.rfl' _)) | (apply Pick.cons; focus (repeat (first | exact .head | apply Rem.tail))))) hw) (SlAt.mk' (hw.cells (k := ⟨b55, 5, c55 * 1, B (pB), (0, 0)⟩) (by repeat (first | exact .head _ | apply List.Mem.tail)))) rfl pB_len.symm (by omega) (by decide) (by rw [pB_N]; exact hge) rfl) ?_
        rintro _ N56 ⟨rs56, ao56, c56, rfl, hO56, hv56, hz56⟩
        rw [pB_N] at hv56
        refine GL_y rfl rfl (Y_assign rfl) ?_
        refine GL_nil ?_
        (repeat (first | (with_reducible refine R_seq ?_) | (with_reducible refine R_block_normal ?_)))
        (repeat (with_reducible refine R_block_normal ?_))
        refine R_fam ⟨rs56, ao56, c56, N56⟩ ?_ (⟨by first | rfl | decide, trivial⟩) (by exact Pick.pre _ _)
        obtain ⟨k1, k2⟩ := rnd_sub hge
        simp only
        rw [hv56]
        exact ⟨⟨hO56, k1.trans hv, hz56, by omega⟩, k2⟩
      · -- no
        (repeat (with_reducible refine G_seq ?_))
        refine G_exit ?_
        (repeat (first | (with_reducible refine R_then_exit ?_) | (with_reducible refine R_block_exit ?_) | (with_reducible refine R_block_other (by decide) ?_)))
        (repeat (first | (with_reducible refine R_seq ?_) | (with_reducible refine R_block_normal ?_)))
        (repeat (with_reducible refine G_seq ?_))
        refine G_region ?_
        refine GL_y rfl rfl (Y_move rfl) ?_
        refine GL_y rfl rfl (Y_assign rfl) ?_
        refine GL_nil ?_
        (repeat (first | (with_reducible refine R_seq ?_) | (with_reducible refine R_block_normal ?_)))
        (repeat (with_reducible refine G_seq ?_))
        refine G_ret ?_
        (repeat (first | (with_reducible refine R_then_ret ?_) | (with_reducible refine R_block_ret ?_)))
        have hge : ¬ P ≤ leN p.rs := hge
        refine R_ret (.tmp rfl .nil) p.N (by repeat (first | exact .nil | exact Pick.rfl' _ | exact Pick.skip (Pick.rfl' _) | exact Pick.skip (Pick.skip (Pick.rfl' _)) | (apply Pick.cons; focus (repeat (first | exact .head | apply Rem.tail))))) ⟨p.rs, p.ao, p.c, rfl, hO, by rw [← hv, Nat.mod_eq_of_lt (by omega)], hz⟩
  · -- g15 False
    have hb : leN rs < P + 19 := rnd_b1 hlen (of_decide_eq_false g15)
    refine GL_skip rfl rfl ?_
    refine GL_skip rfl rfl ?_
    refine GL_skip rfl rfl ?_
    refine GL_skip rfl rfl ?_
    refine GL_y rfl rfl (Y_pick rfl rfl rfl rfl) ?_
    refine GL_y rfl rfl (Y_pick rfl rfl rfl rfl) ?_
    refine GL_nil ?_
    (repeat (first | (with_reducible refine R_seq ?_) | (with_reducible refine R_block_normal ?_)))
    (repeat (with_reducible refine G_seq ?_))
    refine G_cond_f rfl (by rfl) ?_
    (repeat (with_reducible refine G_seq ?_))
    refine G_exit ?_
    (repeat (first | (with_reducible refine R_then_exit ?_) | (with_reducible refine R_block_exit ?_) | (with_reducible refine R_block_other (by decide) ?_)))
    (repeat (first | (with_reducible refine R_seq ?_) | (with_reducible refine R_block_normal ?_)))
    (repeat (with_reducible refine G_seq ?_))
    refine G_block ?_
    (repeat (with_reducible refine G_seq ?_))
    refine G_loop (ι := RI) (fun p => leN p.rs) (fun p => OB p.rs p.ao p.c p.N ∧ leN p.rs % P = v ∧ NZ p.rs ∧ leN p.rs < P + 19) (fun p => [(0, .slice p.ao p.rs.length p.c)]) (fun p => p.N) ⟨rs, ao, c, N⟩ ?_ (⟨by first | rfl | decide, trivial⟩) (by repeat (first | exact .nil | exact Pick.rfl' _ | exact Pick.skip (Pick.rfl' _) | exact Pick.skip (Pick.skip (Pick.rfl' _)) | (apply Pick.cons; focus (repeat (first | exact .head | apply Rem.tail))))) ?_
    · first | exact ⟨hO, hv, hz, hb⟩ | exact ⟨.some hcap, hv, hz, hb⟩
    intro p hI
    obtain ⟨hO, hv, hz, hlt⟩ := hI
    have hlen : p.rs.length ≤ 32 := hz.len (by rw [p256]; exact Nat.lt_trans hlt (by decide))
    (repeat (with_reducible refine G_seq ?_))
    refine G_region ?_
    refine GL_y rfl rfl (Y_move rfl) ?_
    refine GL_call rfl rfl rfl rfl Try.call32 .nil (fun w hw => p_is) ?_
    rintro _ _ ⟨b51, c51, rfl, rfl⟩
    refine GL_call rfl rfl rfl rfl Try.call31 .nil (fun w hw => cmpE_is (hO.at (by repeat (first | exact .nil | exact Pick.rfl' _ | exact Pick.skip (Pick.rfl' _) | exact Pick.skip (Pick.skip (Pick.rfl' _)) | (apply Pick.cons; focus (repeat (first | exact .head | apply Rem.tail))))) hw) (SlAt.mk' (hw.cells (k := ⟨b51, 5, c51 * 1, B (pB), (0, 0)⟩) (by repeat (first | exact .head _ | apply List.Mem.tail)))) rfl pB_len.symm (by omega) (by decide)) ?_
    rintro _ _ ⟨rfl, rfl⟩
    rw [pB_N]
    refine GL_y rfl rfl ((Y_iop rfl rfl rfl).as _ (cmp_geq (leN p.rs))) ?_
    refine GL_nil ?_
    (repeat (first | (with_reducible refine R_seq ?_) | (with_reducible refine R_block_normal ?_)))
    (repeat (with_reducible refine G_seq ?_))
    refine G_cond_dec rfl (fun hge => ?_) (fun hge => ?_)
    · -- yes
      (repeat (with_reducible refine G_seq ?_))
      refine G_skip ?_
      (repeat (first | (with_reducible refine R_seq ?_) | (with_reducible refine R_block_normal ?_)))
      (repeat (with_reducible refine G_seq ?_))
      refine G_block ?_
      (repeat (with_reducible refine G_seq ?_))
      refine G_region ?_
      refine GL_y rfl rfl (Y_move rfl) ?_
      refine GL_call rfl rfl rfl rfl Try.call32 .nil (fun w hw => p_is) ?_
      rintro _ _ ⟨b55, c55, rfl, rfl⟩
      refine GL_call rfl rfl rfl rfl Try.call37 .nil (fun w hw => rsub_is (hO.at (by repeat (first | exact .nil | exact Pick.rfl' _ | exact Pick.skip (Pick.rfl' _) | exact Pick.skip (Pick.skip (Pick.rfl' _)) | (apply Pick.cons; focus (repeat (first | exact .head | apply Rem.tail))))) hw) (SlAt.mk' (hw.cells (k := ⟨b55, 5, c55 * 1, B (pB), (0, 0)⟩) (by repeat (first | exact .head _ | apply List.Mem.tail)))) rfl pB_len.symm (by omega) (by decide) (by rw [pB_N]; exact hge) rfl) ?_
      rintro _ N56 ⟨rs56, ao56, c56, rfl, hO56, hv56, hz56⟩
      rw [pB_N] at hv56
      refine GL_y rfl rfl (Y_assign rfl) ?_
      refine GL_nil ?_
      (repeat (first | (with_reducible refine R_seq ?_) | (with_reducible refine R_block_normal ?_)))
      (repeat (with_reducible refine R_block_normal ?_))
      refine R_fam ⟨rs56, ao56, c56, N56⟩ ?_ (⟨by first | rfl | decide, trivial⟩) (by exact Pick.pre _ _)
      obtain ⟨k1, k2⟩ := rnd_sub hge
      simp only
      rw [hv56]
      exact ⟨⟨hO56, k1.trans hv, hz56, by omega⟩, k2⟩
    · -- no
      (repeat (with_reducible refine G_seq ?_))
      refine G_exit ?_
      (repeat (first | (with_reducible refine R_then_exit ?_) | (with_reducible refine R_block_exit ?_) | (with_reducible refine R_block_other (by decide) ?_)))
      (repeat (first | (with_reducible refine R_seq ?_) | (with_reducible refine R_block_normal ?_)))
      (repeat (with_reducible refine G_seq ?_))
      refine G_region ?_
      refine GL_y rfl rfl (Y_move rfl) ?_
      refine GL_y rfl rfl (Y_assign rfl) ?_
      refine GL_nil ?_
      (repeat (first | (with_reducible refine R_seq ?_) | (with_reducible refine R_block_normal ?_)))
      (repeat (with_reducible refine G_seq ?_))
      refine G_ret ?_
      (repeat (first | (with_reducible refine R_then_ret ?_) | (with_reducible refine R_block_ret ?_)))
      have hge : ¬ P ≤ leN p.rs := hge
      refine R_ret (.tmp rfl .nil) p.N (by repeat (first | exact .nil | exact Pick.rfl' _ | exact Pick.skip (Pick.rfl' _) | exact Pick.skip (Pick.skip (Pick.rfl' _)) | (apply Pick.cons; focus (repeat (first | exact .head | apply Rem.tail))))) ⟨p.rs, p.ao, p.c, rfl, hO, by rw [← hv, Nat.mod_eq_of_lt (by omega)], hz⟩
end Go.Proofs.Ytefphcpaakhfbaa

/-
  The document's Parse; the laws KeysParse, KeysBack.
-/
import Derived.Test.YtkdodpcafamhaaaKP0
namespace Go.Proofs.Ytkdodpcafamhaaa
open Go Go.Sl Go.RowKit


theorem _root_.Go.Sl.SL.right {X : List Nat} {A M : List Blk} {w0 w : World} (s : SL X (A ++ M) w0 w) : SL X M w0 w := (s.perm List.perm_append_comm).left
theorem keyP_set (l : List UInt8) {q : Nat} (hq : q < 32) : setL (keyL (keyP l q)) (0 + 1 + q) (bv (bAt l (4 + q))) = some (keyL (keyP l (q + 1))) := by
  have hq1 : 0 + 1 + q = q + 1 := by omega
  rw [setL_of (by rw [keyL_len]; omega), hq1]
  have hl : q < (B (partB l q)).length := by rw [len_B, partB_len]; exact hq
  show some (Value.int .i64 _ :: ((B (partB l q) ++ [Value.bool _]).set q (bv (bAt l (4 + q))))) = _
  rw [List.set_append_left _ _ hl]
  have e : (B (partB l q)).set q (bv (bAt l (4 + q))) = B (partB l (q + 1)) := by
    rw [← partB_step l hq]; simp [B, List.map_set]
  rw [e]
  rfl
theorem partB_zero (l : List UInt8) : partB l 0 = z32 := by
  unfold partB z32
  apply List.ext_getElem?
  intro i
  simp only [List.getElem?_map, List.getElem?_replicate]
  by_cases hi : i < 32
  · rw [List.getElem?_eq_getElem (by simpa using hi), if_pos hi]; simp
  · rw [List.getElem?_eq_none (by simpa using hi), if_neg hi]; rfl
structure RPI where
  ao : Option Addr
  c : Nat
  N : List Blk
  ring : List KeyD
  pos : Nat
set_option maxHeartbeats 4000000 in
theorem refParse_form {ao : Option Addr} {c : Nat} {bs : List UInt8} {w : World} (hl : bs.length ≤ 1000) (hf : ¬ (8 ≤ bs.length ∧ (bs.length - 8) % 37 = 0 ∧ bs.length ≤ 304)) : FnAt Try.prog 18 [.slice ao bs.length c] [] w (Ret fun v N => v = .tuple #[.slice none 0 0, .bool false] ∧ N = []) := by
  refine FnAt.intro Try.func18 rfl Try.ntmps18 rfl _ rfl ?_
  (repeat (with_reducible refine G_seq ?_))
  refine G_region ?_
  refine GL_y rfl rfl (Y_assign rfl) ?_
  refine GL_y rfl rfl (Y_assign rfl) ?_
  refine GL_nil ?_
  (repeat (first | (with_reducible refine R_seq ?_) | (with_reducible refine R_block_normal ?_)))
  (repeat (with_reducible refine G_seq ?_))
  refine G_region ?_
  refine GL_y rfl rfl (Y_move rfl) ?_
  refine GL_y rfl rfl (Y_len sl24 rfl) ?_
  refine GL_y rfl rfl (Y_lssN (b := 8) rfl rfl) ?_
  refine GL_y rfl rfl (Y_move rfl) ?_
  refine GL_bool 11 rfl (fun g11 => ?_) (fun g11 => ?_)
  · -- g11 True
    refine GL_skip rfl rfl ?_
    refine GL_skip rfl rfl ?_
    refine GL_skip rfl rfl ?_
    refine GL_skip rfl rfl ?_
    refine GL_skip rfl rfl ?_
    refine GL_y rfl rfl (Y_pick rfl rfl rfl rfl) ?_
    refine GL_y rfl rfl (Y_move rfl) ?_
    refine GL_skip rfl rfl ?_
    refine GL_skip rfl rfl ?_
    refine GL_skip rfl rfl ?_
    refine GL_y rfl rfl (Y_pick rfl rfl rfl rfl) ?_
    refine GL_nil ?_
    (repeat (first | (with_reducible refine R_seq ?_) | (with_reducible refine R_block_normal ?_)))
    (repeat (with_reducible refine G_seq ?_))
    refine G_cond_t rfl (by first | rfl | decide | (simp; done) | (simp; omega)) ?_
    (repeat (with_reducible refine G_seq ?_))
    refine G_region ?_
    refine GL_y rfl rfl (Y_assign rfl) ?_
    refine GL_y rfl rfl (Y_assign rfl) ?_
    refine GL_nil ?_
    (repeat (first | (with_reducible refine R_seq ?_) | (with_reducible refine R_block_normal ?_)))
    (repeat (with_reducible refine G_seq ?_))
    refine G_ret ?_
    (repeat (first | (with_reducible refine R_then_ret ?_) | (with_reducible refine R_block_ret ?_)))
    refine R_ret (.tmp rfl (.tmp rfl .nil)) [] .nil ⟨rfl, rfl⟩
  · -- g11 False
    have g11' := of_decide_eq_false g11
    refine GL_y rfl rfl (Y_move rfl) ?_
    refine GL_y rfl rfl (Y_len sl24 rfl) ?_
    refine GL_y rfl rfl (Y_subN (b := 8) rfl rfl (by first | omega | decide) (by first | omega | decide)) ?_
    refine GL_y rfl rfl (Y_remN (b := 37) rfl rfl (by first | omega | decide)) ?_
    refine GL_y rfl rfl (Y_neqN (b := 0) rfl rfl) ?_
    refine GL_y rfl rfl (Y_pick rfl rfl rfl rfl) ?_
    refine GL_y rfl rfl (Y_move rfl) ?_
    refine GL_bool 18 rfl (fun g18 => ?_) (fun g18 => ?_)
    · -- g18 True
      refine GL_skip rfl rfl ?_
      refine GL_skip rfl rfl ?_
      refine GL_skip rfl rfl ?_
      refine GL_y rfl rfl (Y_pick rfl rfl rfl rfl) ?_
      refine GL_nil ?_
      (repeat (first | (with_reducible refine R_seq ?_) | (with_reducible refine R_block_normal ?_)))
      (repeat (with_reducible refine G_seq ?_))
      refine G_cond_t rfl (by first | rfl | decide | (simp; done) | (simp; omega)) ?_
      (repeat (with_reducible refine G_seq ?_))
      refine G_region ?_
      refine GL_y rfl rfl (Y_assign rfl) ?_
      refine GL_y rfl rfl (Y_assign rfl) ?_
      refine GL_nil ?_
      (repeat (first | (with_reducible refine R_seq ?_) | (with_reducible refine R_block_normal ?_)))
      (repeat (with_reducible refine G_seq ?_))
      refine G_ret ?_
      (repeat (first | (with_reducible refine R_then_ret ?_) | (with_reducible refine R_block_ret ?_)))
      refine R_ret (.tmp rfl (.tmp rfl .nil)) [] .nil ⟨rfl, rfl⟩
    · -- g18 False
      have g18' := of_decide_eq_false g18
      refine GL_y rfl rfl (Y_move rfl) ?_
      refine GL_y rfl rfl (Y_len sl24 rfl) ?_
      refine GL_y rfl rfl (Y_gtrN (b := 304) rfl rfl) ?_
      refine GL_y rfl rfl (Y_pick rfl rfl rfl rfl) ?_
      refine GL_nil ?_
      (repeat (first | (with_reducible refine R_seq ?_) | (with_reducible refine R_block_normal ?_)))
      (repeat (with_reducible refine G_seq ?_))
      refine G_cond_t rfl (by simp; simp at g18'; omega) ?_
      (repeat (with_reducible refine G_seq ?_))
      refine G_region ?_
      refine GL_y rfl rfl (Y_assign rfl) ?_
      refine GL_y rfl rfl (Y_assign rfl) ?_
      refine GL_nil ?_
      (repeat (first | (with_reducible refine R_seq ?_) | (with_reducible refine R_block_normal ?_)))
      (repeat (with_reducible refine G_seq ?_))
      refine G_ret ?_
      (repeat (first | (with_reducible refine R_then_ret ?_) | (with_reducible refine R_block_ret ?_)))
      refine R_ret (.tmp rfl (.tmp rfl .nil)) [] .nil ⟨rfl, rfl⟩
set_option maxHeartbeats 4000000 in
theorem refParse_bad {ao : Option Addr} {c : Nat} {bs : List UInt8} {w : World} (hs : SlAt w ao (B bs)) (hc : bs.length ≤ c) (hl : bs.length ≤ 1000) (h8 : 8 ≤ bs.length) (h2 : (bs.length - 8) % 37 = 0) (h3 : bs.length ≤ 304) (hm : mayB (keysOf 8 (bs.drop 8)) = false) : FnAt Try.prog 18 [.slice ao bs.length c] [] w (Ret fun v N => v = .tuple #[.slice none 0 0, .bool false] ∧ N = []) := by
  refine FnAt.intro Try.func18 rfl Try.ntmps18 rfl _ rfl ?_
  (repeat (with_reducible refine G_seq ?_))
  refine G_region ?_
  refine GL_y rfl rfl (Y_assign rfl) ?_
  refine GL_y rfl rfl (Y_assign rfl) ?_
  refine GL_nil ?_
  (repeat (first | (with_reducible refine R_seq ?_) | (with_reducible refine R_block_normal ?_)))
  (repeat (with_reducible refine G_seq ?_))
  refine G_region ?_
  refine GL_y rfl rfl (Y_move rfl) ?_
  refine GL_y rfl rfl (Y_len sl24 rfl) ?_
  refine GL_y rfl rfl (Y_lssN (b := 8) rfl rfl) ?_
  refine GL_y rfl rfl (Y_move rfl) ?_
  refine GL_bool 11 rfl (fun g11 => ?_) (fun g11 => ?_)
  · -- g11 True
    exact absurd (of_decide_eq_true g11) (by omega)
  · -- g11 False
    have g11' := of_decide_eq_false g11
    refine GL_y rfl rfl (Y_move rfl) ?_
    refine GL_y rfl rfl (Y_len sl24 rfl) ?_
    refine GL_y rfl rfl (Y_subN (b := 8) rfl rfl (by first | omega | decide) (by first | omega | decide)) ?_
    refine GL_y rfl rfl (Y_remN (b := 37) rfl rfl (by first | omega | decide)) ?_
    refine GL_y rfl rfl (Y_neqN (b := 0) rfl rfl) ?_
    refine GL_y rfl rfl (Y_pick rfl rfl rfl rfl) ?_
    refine GL_y rfl rfl (Y_move rfl) ?_
    refine GL_bool 18 rfl (fun g18 => ?_) (fun g18 => ?_)
    · -- g18 True
      exact absurd (of_decide_eq_true g18) (by simp only [ne_eq, Decidable.not_not]; exact h2)
    · -- g18 False
      refine GL_y rfl rfl (Y_move rfl) ?_
      refine GL_y rfl rfl (Y_len sl24 rfl) ?_
      refine GL_y rfl rfl (Y_gtrN (b := 304) rfl rfl) ?_
      refine GL_y rfl rfl (Y_pick rfl rfl rfl rfl) ?_
      refine GL_nil ?_
      (repeat (first | (with_reducible refine R_seq ?_) | (with_reducible refine R_block_normal ?_)))
      (repeat (with_reducible refine G_seq ?_))
      refine G_cond_f rfl (by simp; omega) ?_
      (repeat (with_reducible refine G_seq ?_))
      refine G_skip ?_
      (repeat (first | (with_reducible refine R_seq ?_) | (with_reducible refine R_block_normal ?_)))
      (repeat (with_reducible refine G_seq ?_))
      refine G_region ?_
      refine GL_y rfl rfl (Y_assign rfl) ?_
      refine GL_nil ?_
      (repeat (first | (with_reducible refine R_seq ?_) | (with_reducible refine R_block_normal ?_)))
      (repeat (with_reducible refine G_seq ?_))
      refine G_region ?_
      refine GL_y rfl rfl (Y_assign rfl) ?_
      refine GL_nil ?_
      (repeat (first | (with_reducible refine R_seq ?_) | (with_reducible refine R_block_normal ?_)))
      (repeat (with_reducible refine G_seq ?_))
      refine G_block ?_
      (repeat (with_reducible refine G_seq ?_))
      refine G_loop (ι := RPI) (fun i => bs.length - i.pos) (fun i => i.pos = 8 + 37 * i.ring.length ∧ i.pos ≤ bs.length ∧ Own i.N i.ao i.c i.ring ∧ keysOf 8 (bs.drop 8) = i.ring ++ keysOf (8 - i.ring.length) (bs.drop i.pos)) (fun i => [(0, .slice ao bs.length c), (2, .slice none 0 0), (3, .bool false), (4, .slice i.ao i.ring.length i.c), (5, .int .i64 (i.pos : Int))]) (fun i => i.N) ⟨none, 0, [], [], 8⟩ ?_ (⟨by first | rfl | decide, by first | rfl | decide, by first | rfl | decide, by first | rfl | decide, by first | rfl | decide, trivial⟩) (by repeat (first | exact .nil | exact Pick.rfl' _ | exact Pick.skip (Pick.rfl' _) | exact Pick.skip (Pick.skip (Pick.rfl' _)) | (apply Pick.cons; focus (first | exact .head | exact (.tail .head) | exact (.tail (.tail .head)) | exact (.tail (.tail (.tail .head))) | exact (.tail (.tail (.tail (.tail .head)))) | exact (.tail (.tail (.tail (.tail (.tail .head))))) | exact (.tail (.tail (.tail (.tail (.tail (.tail .head)))))) | exact (.tail (.tail (.tail (.tail (.tail (.tail (.tail .head))))))) | exact (.tail (.tail (.tail (.tail (.tail (.tail (.tail (.tail .head)))))))) | exact (.tail (.tail (.tail (.tail (.tail (.tail (.tail (.tail (.tail .head))))))))) | exact (.tail (.tail (.tail (.tail (.tail (.tail (.tail (.tail (.tail (.tail .head)))))))))) | exact (.tail (.tail (.tail (.tail (.tail (.tail (.tail (.tail (.tail (.tail (.tail .head))))))))))) | exact (.tail (.tail (.tail (.tail (.tail (.tail (.tail (.tail (.tail (.tail (.tail (.tail .head)))))))))))) | exact (.tail (.tail (.tail (.tail (.tail (.tail (.tail (.tail (.tail (.tail (.tail (.tail (.tail .head))))))))))))))))) ?_
      · exact ⟨rfl, h8, .inl ⟨rfl, rfl, rfl, rfl⟩, by simp⟩
      intro i ⟨hpos, hple, hO, hk⟩
      (repeat (with_reducible refine G_seq ?_))
      refine G_region ?_
      refine GL_y rfl rfl (Y_move rfl) ?_
      refine GL_y rfl rfl (Y_move rfl) ?_
      refine GL_y rfl rfl (Y_len sl24 rfl) ?_
      refine GL_y rfl rfl (Y_lssN rfl rfl) ?_
      refine GL_nil ?_
      (repeat (first | (with_reducible refine R_seq ?_) | (with_reducible refine R_block_normal ?_)))
      (repeat (with_reducible refine G_seq ?_))
      refine G_cond_dec rfl (fun ht26 => ?_) (fun ht26 => ?_)
      · -- yes
        (repeat (with_reducible refine G_seq ?_))
        refine G_skip ?_
        (repeat (first | (with_reducible refine R_seq ?_) | (with_reducible refine R_block_normal ?_)))
        (repeat (with_reducible refine G_seq ?_))
        refine G_block ?_
        have h37 : i.pos + 37 ≤ bs.length := by omega
        have hr8 : i.ring.length < 8 := by omega
        have hx0 : ((bs.drop i.pos).take 4)[0]? = some (bAt (bs.drop i.pos) 0) := by
          rw [List.getElem?_take, if_pos (by decide), bAt, List.getElem?_eq_getElem (by rw [List.length_drop]; omega)]; rfl
        have hx1 : ((bs.drop i.pos).take 4)[1]? = some (bAt (bs.drop i.pos) 1) := by
          rw [List.getElem?_take, if_pos (by decide), bAt, List.getElem?_eq_getElem (by rw [List.length_drop]; omega)]; rfl
        have hx2 : ((bs.drop i.pos).take 4)[2]? = some (bAt (bs.drop i.pos) 2) := by
          rw [List.getElem?_take, if_pos (by decide), bAt, List.getElem?_eq_getElem (by rw [List.length_drop]; omega)]; rfl
        have hx3 : ((bs.drop i.pos).take 4)[3]? = some (bAt (bs.drop i.pos) 3) := by
          rw [List.getElem?_take, if_pos (by decide), bAt, List.getElem?_eq_getElem (by rw [List.length_drop]; omega)]; rfl
        have hx36 : bs[i.pos + 36]? = some (bAt (bs.drop i.pos) 36) := by
          rw [bAt_drop, bAt, List.getElem?_eq_getElem (by omega)]; rfl
        have hsl : SlAt w (subA ao c i.pos 1) (B ((bs.drop i.pos).take 4)) := by
          have h := (hs.drop c i.pos 1 (by rw [len_B]; omega)).take 4
          have e : ((B bs).drop (i.pos * 1)).take 4 = B ((bs.drop i.pos).take 4) := by simp [B, List.map_drop, List.map_take]
          rw [e] at h
          exact h
        (repeat (with_reducible refine G_seq ?_))
        refine G_draw [14] 15 rfl (by kernel_rfl) ?_
        refine GA_y 0 rfl (by kernel_rfl) (by kernel_rfl) (by kernel_rfl) (fun _ _ _ h => h) rfl rfl rfl (Y_move rfl) ?_
        refine GA_y 1 rfl (by kernel_rfl) (by kernel_rfl) (by kernel_rfl) (fun _ _ _ h => h) rfl rfl rfl (Y_move rfl) ?_
        refine GA_y 2 rfl (by kernel_rfl) (by kernel_rfl) (by kernel_rfl) (fun _ _ _ h => h) rfl rfl rfl (Y_move rfl) ?_
        refine GA_y 3 rfl (by kernel_rfl) (by kernel_rfl) (by kernel_rfl) (fun _ _ _ h => h) rfl rfl rfl (Y_addN (b := 4) rfl rfl (by first | omega | decide)) ?_
        refine GA_y 4 rfl (by kernel_rfl) (by kernel_rfl) (by kernel_rfl) (fun _ _ _ h => h) rfl rfl rfl (Y_slS (vl := some _) (vh := some _) (kl := i.pos) (kh := i.pos + 4) sl24 rfl rfl rfl ⟨_, rfl⟩ ⟨_, rfl⟩ (by omega) (by omega) hc) ?_
        refine GA_y 6 rfl (by kernel_rfl) (by kernel_rfl) (by kernel_rfl) (fun _ _ _ h => h) rfl rfl rfl (Y_move rfl) ?_
        refine GA_y 7 rfl (by kernel_rfl) (by kernel_rfl) (by kernel_rfl) (fun _ _ _ h => h) rfl rfl rfl (Y_move rfl) ?_
        refine GA_y 8 rfl (by kernel_rfl) (by kernel_rfl) (by kernel_rfl) (fun _ _ _ h => h) rfl rfl rfl (Y_addN (b := 36) rfl rfl (by first | omega | decide)) ?_
        refine GA_y 9 rfl (by kernel_rfl) (by kernel_rfl) (by kernel_rfl) (fun _ _ _ h => h) rfl rfl rfl (Y_bAt (j := i.pos + 36) hs rfl rfl hx36 rfl) ?_
        refine GA_y 10 rfl (by kernel_rfl) (by kernel_rfl) (by kernel_rfl) (fun _ _ _ h => h) rfl rfl rfl (Y_bGet hs (by simp) rfl hx36) ?_
        refine GA_y 11 rfl (by kernel_rfl) (by kernel_rfl) (by kernel_rfl) (fun _ _ _ h => h) rfl rfl rfl ((Y_iop rfl rfl rfl).as (.bool (decide ((bAt (bs.drop i.pos) 36) = 1))) (congrArg Value.bool (decide_eq_decide.2 ⟨fun h => UInt8.toNat_inj.1 (by have h' : ((bAt (bs.drop i.pos) 36).toNat : Int) = 1 := h; show (bAt (bs.drop i.pos) 36).toNat = 1; omega), fun h => by rw [h]; rfl⟩))) ?_
        refine GA_all [5, 13] (by kernel_rfl) rfl ⟨?_, ?_, trivial⟩
        · -- 5 comes up
          refine GO_call rfl rfl rfl rfl rfl rfl Try.call25 (fun w hw => number_is (hsl.keep hw (by simp)) (by rw [List.length_take, List.length_drop]; omega) hx0 hx1 hx2 hx3) ?_
          rintro _ _ ⟨rfl, rfl⟩
          refine GA_y 12 rfl (by kernel_rfl) (by kernel_rfl) (by kernel_rfl) (fun _ _ _ h => h) rfl rfl rfl (Y_build (v := .agg (keyL (keyP (bs.drop i.pos) 0)).toArray) (vs := [(0, .int .i64 (keyP (bs.drop i.pos) 0).num), (2, .bool (keyP (bs.drop i.pos) 0).rev)]) rfl (fun w => build39' (keyP (bs.drop i.pos) 0) (partB_zero _) w)) ?_
          refine GA_one 13 (by kernel_rfl) ?_
          refine GO_w rfl rfl rfl rfl (W_alloc zr39 fun b6 => ⟨⟨_, by repeat (first | exact .nil | exact Pick.rfl' _ | exact Pick.skip (Pick.rfl' _) | exact Pick.skip (Pick.skip (Pick.rfl' _)) | (apply Pick.cons; focus (first | exact .head | exact (.tail .head) | exact (.tail (.tail .head)) | exact (.tail (.tail (.tail .head))) | exact (.tail (.tail (.tail (.tail .head)))) | exact (.tail (.tail (.tail (.tail (.tail .head))))) | exact (.tail (.tail (.tail (.tail (.tail (.tail .head)))))) | exact (.tail (.tail (.tail (.tail (.tail (.tail (.tail .head))))))) | exact (.tail (.tail (.tail (.tail (.tail (.tail (.tail (.tail .head)))))))) | exact (.tail (.tail (.tail (.tail (.tail (.tail (.tail (.tail (.tail .head))))))))) | exact (.tail (.tail (.tail (.tail (.tail (.tail (.tail (.tail (.tail (.tail .head)))))))))) | exact (.tail (.tail (.tail (.tail (.tail (.tail (.tail (.tail (.tail (.tail (.tail .head))))))))))) | exact (.tail (.tail (.tail (.tail (.tail (.tail (.tail (.tail (.tail (.tail (.tail (.tail .head)))))))))))) | exact (.tail (.tail (.tail (.tail (.tail (.tail (.tail (.tail (.tail (.tail (.tail (.tail (.tail .head))))))))))))))))⟩, ?_⟩)
          refine GA_one 14 (by kernel_rfl) ?_
          refine GO_s rfl rfl rfl (S_all rfl rfl ag39 (keyL_len _) (keyL_all _) (by first | exact .head | exact (.tail .head) | exact (.tail (.tail .head)) | exact (.tail (.tail (.tail .head))) | exact (.tail (.tail (.tail (.tail .head)))) | exact (.tail (.tail (.tail (.tail (.tail .head))))) | exact (.tail (.tail (.tail (.tail (.tail (.tail .head)))))) | exact (.tail (.tail (.tail (.tail (.tail (.tail (.tail .head))))))) | exact (.tail (.tail (.tail (.tail (.tail (.tail (.tail (.tail .head)))))))) | exact (.tail (.tail (.tail (.tail (.tail (.tail (.tail (.tail (.tail .head))))))))) | exact (.tail (.tail (.tail (.tail (.tail (.tail (.tail (.tail (.tail (.tail .head)))))))))) | exact (.tail (.tail (.tail (.tail (.tail (.tail (.tail (.tail (.tail (.tail (.tail .head))))))))))) | exact (.tail (.tail (.tail (.tail (.tail (.tail (.tail (.tail (.tail (.tail (.tail (.tail .head)))))))))))) | exact (.tail (.tail (.tail (.tail (.tail (.tail (.tail (.tail (.tail (.tail (.tail (.tail (.tail .head)))))))))))))) (by rfl)) ?_
          refine GA_done (by kernel_rfl) ?_
          (repeat (first | (with_reducible refine R_seq ?_) | (with_reducible refine R_block_normal ?_)))
          (repeat (with_reducible refine G_seq ?_))
          refine G_region ?_
          refine GL_y rfl rfl (Y_assign rfl) ?_
          refine GL_nil ?_
          (repeat (first | (with_reducible refine R_seq ?_) | (with_reducible refine R_block_normal ?_)))
          (repeat (with_reducible refine G_seq ?_))
          refine G_block ?_
          (repeat (with_reducible refine G_seq ?_))
          refine G_loop (ι := Nat) (fun q => 32 - q) (fun q => q ≤ 32) (fun q => [(0, .slice ao bs.length c), (2, .slice none 0 0), (3, .bool false), (4, .slice i.ao i.ring.length i.c), (5, .int .i64 (i.pos : Int)), (6, .pointer (some ⟨b6, 0, none⟩)), (7, .int .i64 (q : Int))]) (fun q => ⟨b6, 39, 34, keyL (keyP (bs.drop i.pos) q), (0, 0)⟩ :: i.N) 0 ?_ (⟨by first | rfl | decide, by first | rfl | decide, by first | rfl | decide, by first | rfl | decide, by first | rfl | decide, by first | rfl | decide, by first | rfl | decide, trivial⟩) (by repeat (first | exact .nil | exact Pick.rfl' _ | exact Pick.skip (Pick.rfl' _) | exact Pick.skip (Pick.skip (Pick.rfl' _)) | (apply Pick.cons; focus (first | exact .head | exact (.tail .head) | exact (.tail (.tail .head)) | exact (.tail (.tail (.tail .head))) | exact (.tail (.tail (.tail (.tail .head)))) | exact (.tail (.tail (.tail (.tail (.tail .head))))) | exact (.tail (.tail (.tail (.tail (.tail (.tail .head)))))) | exact (.tail (.tail (.tail (.tail (.tail (.tail (.tail .head))))))) | exact (.tail (.tail (.tail (.tail (.tail (.tail (.tail (.tail .head)))))))) | exact (.tail (.tail (.tail (.tail (.tail (.tail (.tail (.tail (.tail .head))))))))) | exact (.tail (.tail (.tail (.tail (.tail (.tail (.tail (.tail (.tail (.tail .head)))))))))) | exact (.tail (.tail (.tail (.tail (.tail (.tail (.tail (.tail (.tail (.tail (.tail .head))))))))))) | exact (.tail (.tail (.tail (.tail (.tail (.tail (.tail (.tail (.tail (.tail (.tail (.tail .head)))))))))))) | exact (.tail (.tail (.tail (.tail (.tail (.tail (.tail (.tail (.tail (.tail (.tail (.tail (.tail .head))))))))))))))))) ?_
          · omega
          intro q hq
          (repeat (with_reducible refine G_seq ?_))
          refine G_region ?_
          refine GL_y rfl rfl (Y_move rfl) ?_
          refine GL_y rfl rfl (Y_lssN (b := 32) rfl rfl) ?_
          refine GL_nil ?_
          (repeat (first | (with_reducible refine R_seq ?_) | (with_reducible refine R_block_normal ?_)))
          (repeat (with_reducible refine G_seq ?_))
          refine G_cond_dec rfl (fun ht43 => ?_) (fun ht43 => ?_)
          · -- yes
            (repeat (with_reducible refine G_seq ?_))
            refine G_skip ?_
            (repeat (first | (with_reducible refine R_seq ?_) | (with_reducible refine R_block_normal ?_)))
            (repeat (with_reducible refine G_seq ?_))
            refine G_block ?_
            have hxq : bs[i.pos + 4 + q]? = some (bAt (bs.drop i.pos) (4 + q)) := by
              rw [bAt_drop, bAt, ← Nat.add_assoc, List.getElem?_eq_getElem (by omega)]; rfl
            (repeat (with_reducible refine G_seq ?_))
            refine G_region ?_
            refine GL_y rfl rfl (Y_move rfl) ?_
            refine GL_y rfl rfl (Y_move rfl) ?_
            refine GL_y rfl rfl (Y_move rfl) ?_
            refine GL_y rfl rfl (Y_addN (b := 4) rfl rfl (by first | omega | decide)) ?_
            refine GL_y rfl rfl (Y_move rfl) ?_
            refine GL_y rfl rfl (Y_addN rfl rfl (by first | omega | decide)) ?_
            refine GL_y rfl rfl (Y_bAt (j := i.pos + 4 + q) hs rfl rfl hxq rfl) ?_
            refine GL_y rfl rfl (Y_bGet hs (by simp) rfl hxq) ?_
            refine GL_y rfl rfl (Y_field fd39_1 rfl) ?_
            refine GL_y rfl rfl (Y_idxA1 ar28 rfl rfl (by first | omega | decide)) ?_
            refine GL_s rfl (S_sc rfl sc5 rfl rfl (by first | exact .head | exact (.tail .head) | exact (.tail (.tail .head)) | exact (.tail (.tail (.tail .head))) | exact (.tail (.tail (.tail (.tail .head)))) | exact (.tail (.tail (.tail (.tail (.tail .head))))) | exact (.tail (.tail (.tail (.tail (.tail (.tail .head)))))) | exact (.tail (.tail (.tail (.tail (.tail (.tail (.tail .head))))))) | exact (.tail (.tail (.tail (.tail (.tail (.tail (.tail (.tail .head)))))))) | exact (.tail (.tail (.tail (.tail (.tail (.tail (.tail (.tail (.tail .head))))))))) | exact (.tail (.tail (.tail (.tail (.tail (.tail (.tail (.tail (.tail (.tail .head)))))))))) | exact (.tail (.tail (.tail (.tail (.tail (.tail (.tail (.tail (.tail (.tail (.tail .head))))))))))) | exact (.tail (.tail (.tail (.tail (.tail (.tail (.tail (.tail (.tail (.tail (.tail (.tail .head)))))))))))) | exact (.tail (.tail (.tail (.tail (.tail (.tail (.tail (.tail (.tail (.tail (.tail (.tail (.tail .head)))))))))))))) (keyP_set _ ht43)) ?_
            refine GL_nil ?_
            (repeat (first | (with_reducible refine R_seq ?_) | (with_reducible refine R_block_normal ?_)))
            (repeat (with_reducible refine G_seq ?_))
            refine G_region ?_
            refine GL_y rfl rfl (Y_move rfl) ?_
            refine GL_y rfl rfl (Y_addN (b := 1) rfl rfl (by first | omega | decide)) ?_
            refine GL_y rfl rfl (Y_assign rfl) ?_
            refine GL_nil ?_
            (repeat (first | (with_reducible refine R_seq ?_) | (with_reducible refine R_block_normal ?_)))
            (repeat (with_reducible refine R_block_normal ?_))
            refine R_fam (q + 1) ?_ (⟨by first | rfl | decide, by first | rfl | decide, by first | rfl | decide, by first | rfl | decide, by first | rfl | decide, by first | rfl | decide, by first | rfl | decide, trivial⟩) (by repeat (first | exact .nil | exact Pick.rfl' _ | exact Pick.skip (Pick.rfl' _) | exact Pick.skip (Pick.skip (Pick.rfl' _)) | (apply Pick.cons; focus (first | exact .head | exact (.tail .head) | exact (.tail (.tail .head)) | exact (.tail (.tail (.tail .head))) | exact (.tail (.tail (.tail (.tail .head)))) | exact (.tail (.tail (.tail (.tail (.tail .head))))) | exact (.tail (.tail (.tail (.tail (.tail (.tail .head)))))) | exact (.tail (.tail (.tail (.tail (.tail (.tail (.tail .head))))))) | exact (.tail (.tail (.tail (.tail (.tail (.tail (.tail (.tail .head)))))))) | exact (.tail (.tail (.tail (.tail (.tail (.tail (.tail (.tail (.tail .head))))))))) | exact (.tail (.tail (.tail (.tail (.tail (.tail (.tail (.tail (.tail (.tail .head)))))))))) | exact (.tail (.tail (.tail (.tail (.tail (.tail (.tail (.tail (.tail (.tail (.tail .head))))))))))) | exact (.tail (.tail (.tail (.tail (.tail (.tail (.tail (.tail (.tail (.tail (.tail (.tail .head)))))))))))) | exact (.tail (.tail (.tail (.tail (.tail (.tail (.tail (.tail (.tail (.tail (.tail (.tail (.tail .head)))))))))))))))))
            exact ⟨by omega, by omega⟩
          · -- no
            (repeat (with_reducible refine G_seq ?_))
            refine G_exit ?_
            (repeat (first | (with_reducible refine R_then_exit ?_) | (with_reducible refine R_block_exit ?_) | (with_reducible refine R_block_other (by decide) ?_)))
            (repeat (first | (with_reducible refine R_seq ?_) | (with_reducible refine R_block_normal ?_)))
            obtain rfl : q = 32 := by omega
            (repeat (with_reducible refine G_seq ?_))
            refine G_region ?_
            refine GL_y rfl rfl (Y_move rfl) ?_
            refine GL_y rfl rfl (Y_loadA (xs := keyL (keyP (bs.drop i.pos) 32)) rfl (by first | exact .head _ | exact .tail _ (.head _) | exact .tail _ (.tail _ (.head _)) | exact .tail _ (.tail _ (.tail _ (.head _))) | exact .tail _ (.tail _ (.tail _ (.tail _ (.head _)))) | exact .tail _ (.tail _ (.tail _ (.tail _ (.tail _ (.head _))))) | exact .tail _ (.tail _ (.tail _ (.tail _ (.tail _ (.tail _ (.head _)))))) | exact .tail _ (.tail _ (.tail _ (.tail _ (.tail _ (.tail _ (.tail _ (.head _))))))) | exact .tail _ (.tail _ (.tail _ (.tail _ (.tail _ (.tail _ (.tail _ (.tail _ (.head _)))))))) | exact .tail _ (.tail _ (.tail _ (.tail _ (.tail _ (.tail _ (.tail _ (.tail _ (.tail _ (.head _))))))))) | exact .tail _ (.tail _ (.tail _ (.tail _ (.tail _ (.tail _ (.tail _ (.tail _ (.tail _ (.tail _ (.head _)))))))))) | exact .tail _ (.tail _ (.tail _ (.tail _ (.tail _ (.tail _ (.tail _ (.tail _ (.tail _ (.tail _ (.tail _ (.head _))))))))))) | exact .tail _ (.tail _ (.tail _ (.tail _ (.tail _ (.tail _ (.tail _ (.tail _ (.tail _ (.tail _ (.tail _ (.tail _ (.head _)))))))))))) | exact .tail _ (.tail _ (.tail _ (.tail _ (.tail _ (.tail _ (.tail _ (.tail _ (.tail _ (.tail _ (.tail _ (.tail _ (.tail _ (.head _)))))))))))))) ag39 (keyL_len _)) ?_
            refine GL_w rfl rfl (W_bs1 (xs := keyL (keyP (bs.drop i.pos) 32)) Try.underlying22 el39 rfl (keyL_len _) (by decide) (by decide) fun b58 => ?_)
            refine GL_w rfl rfl (W_appKey (kd := keyOf (bs.drop i.pos)) hO rfl rfl rfl (by omega) (.skip (.skip (Pick.rfl' _))) (by first | exact .head _ | exact .tail _ (.head _) | exact .tail _ (.tail _ (.head _)) | exact .tail _ (.tail _ (.tail _ (.head _))) | exact .tail _ (.tail _ (.tail _ (.tail _ (.head _)))) | exact .tail _ (.tail _ (.tail _ (.tail _ (.tail _ (.head _))))) | exact .tail _ (.tail _ (.tail _ (.tail _ (.tail _ (.tail _ (.head _)))))) | exact .tail _ (.tail _ (.tail _ (.tail _ (.tail _ (.tail _ (.tail _ (.head _))))))) | exact .tail _ (.tail _ (.tail _ (.tail _ (.tail _ (.tail _ (.tail _ (.tail _ (.head _)))))))) | exact .tail _ (.tail _ (.tail _ (.tail _ (.tail _ (.tail _ (.tail _ (.tail _ (.tail _ (.head _))))))))) | exact .tail _ (.tail _ (.tail _ (.tail _ (.tail _ (.tail _ (.tail _ (.tail _ (.tail _ (.tail _ (.head _)))))))))) | exact .tail _ (.tail _ (.tail _ (.tail _ (.tail _ (.tail _ (.tail _ (.tail _ (.tail _ (.tail _ (.tail _ (.head _))))))))))) | exact .tail _ (.tail _ (.tail _ (.tail _ (.tail _ (.tail _ (.tail _ (.tail _ (.tail _ (.tail _ (.tail _ (.tail _ (.head _)))))))))))) | exact .tail _ (.tail _ (.tail _ (.tail _ (.tail _ (.tail _ (.tail _ (.tail _ (.tail _ (.tail _ (.tail _ (.tail _ (.tail _ (.head _)))))))))))))) fun b59 c59 => ?_)
            refine GL_y rfl rfl (Y_assign rfl) ?_
            refine GL_nil ?_
            (repeat (first | (with_reducible refine R_seq ?_) | (with_reducible refine R_block_normal ?_)))
            (repeat (with_reducible refine G_seq ?_))
            refine G_region ?_
            refine GL_y rfl rfl (Y_move rfl) ?_
            refine GL_y rfl rfl (Y_addN (b := 37) rfl rfl (by first | omega | decide)) ?_
            refine GL_y rfl rfl (Y_assign rfl) ?_
            refine GL_nil ?_
            (repeat (first | (with_reducible refine R_seq ?_) | (with_reducible refine R_block_normal ?_)))
            (repeat (with_reducible refine R_block_normal ?_))
            refine R_fam ⟨some ⟨b59, 0, none⟩, c59, [⟨b59, 39, c59 * 34, ringL (i.ring ++ [keyOf (bs.drop i.pos)]), (0, 0)⟩], i.ring ++ [keyOf (bs.drop i.pos)], i.pos + 37⟩ ?_ (⟨by first | rfl | decide, by first | rfl | decide, by first | rfl | decide, by first | rfl | decide, by first | rfl | decide, trivial⟩) (by repeat (first | exact .nil | exact Pick.rfl' _ | exact Pick.skip (Pick.rfl' _) | exact Pick.skip (Pick.skip (Pick.rfl' _)) | (apply Pick.cons; focus (first | exact .head | exact (.tail .head) | exact (.tail (.tail .head)) | exact (.tail (.tail (.tail .head))) | exact (.tail (.tail (.tail (.tail .head)))) | exact (.tail (.tail (.tail (.tail (.tail .head))))) | exact (.tail (.tail (.tail (.tail (.tail (.tail .head)))))) | exact (.tail (.tail (.tail (.tail (.tail (.tail (.tail .head))))))) | exact (.tail (.tail (.tail (.tail (.tail (.tail (.tail (.tail .head)))))))) | exact (.tail (.tail (.tail (.tail (.tail (.tail (.tail (.tail (.tail .head))))))))) | exact (.tail (.tail (.tail (.tail (.tail (.tail (.tail (.tail (.tail (.tail .head)))))))))) | exact (.tail (.tail (.tail (.tail (.tail (.tail (.tail (.tail (.tail (.tail (.tail .head))))))))))) | exact (.tail (.tail (.tail (.tail (.tail (.tail (.tail (.tail (.tail (.tail (.tail (.tail .head)))))))))))) | exact (.tail (.tail (.tail (.tail (.tail (.tail (.tail (.tail (.tail (.tail (.tail (.tail (.tail .head)))))))))))))))))
            refine ⟨⟨by simp only [List.length_append, List.length_singleton]; omega, by simp only; omega, .inr ⟨b59, rfl, rfl⟩, ?_⟩, by simp only; omega⟩
            have h := keysOf_app hk hr8 (by rw [List.length_drop]; omega)
            rw [List.drop_drop] at h
            exact h
        · -- 13 comes up
          refine GO_w rfl rfl rfl rfl (W_alloc zr39 fun b6 => ⟨⟨_, by repeat (first | exact .nil | exact Pick.rfl' _ | exact Pick.skip (Pick.rfl' _) | exact Pick.skip (Pick.skip (Pick.rfl' _)) | (apply Pick.cons; focus (first | exact .head | exact (.tail .head) | exact (.tail (.tail .head)) | exact (.tail (.tail (.tail .head))) | exact (.tail (.tail (.tail (.tail .head)))) | exact (.tail (.tail (.tail (.tail (.tail .head))))) | exact (.tail (.tail (.tail (.tail (.tail (.tail .head)))))) | exact (.tail (.tail (.tail (.tail (.tail (.tail (.tail .head))))))) | exact (.tail (.tail (.tail (.tail (.tail (.tail (.tail (.tail .head)))))))) | exact (.tail (.tail (.tail (.tail (.tail (.tail (.tail (.tail (.tail .head))))))))) | exact (.tail (.tail (.tail (.tail (.tail (.tail (.tail (.tail (.tail (.tail .head)))))))))) | exact (.tail (.tail (.tail (.tail (.tail (.tail (.tail (.tail (.tail (.tail (.tail .head))))))))))) | exact (.tail (.tail (.tail (.tail (.tail (.tail (.tail (.tail (.tail (.tail (.tail (.tail .head)))))))))))) | exact (.tail (.tail (.tail (.tail (.tail (.tail (.tail (.tail (.tail (.tail (.tail (.tail (.tail .head))))))))))))))))⟩, ?_⟩)
          refine GA_one 5 (by kernel_rfl) ?_
          refine GO_call rfl rfl rfl rfl rfl rfl Try.call25 (fun w hw => number_is (hsl.keep hw (by simp)) (by rw [List.length_take, List.length_drop]; omega) hx0 hx1 hx2 hx3) ?_
          rintro _ _ ⟨rfl, rfl⟩
          refine GA_y 12 rfl (by kernel_rfl) (by kernel_rfl) (by kernel_rfl) (fun _ _ _ h => h) rfl rfl rfl (Y_build (v := .agg (keyL (keyP (bs.drop i.pos) 0)).toArray) (vs := [(0, .int .i64 (keyP (bs.drop i.pos) 0).num), (2, .bool (keyP (bs.drop i.pos) 0).rev)]) rfl (fun w => build39' (keyP (bs.drop i.pos) 0) (partB_zero _) w)) ?_
          refine GA_one 14 (by kernel_rfl) ?_
          refine GO_s rfl rfl rfl (S_all rfl rfl ag39 (keyL_len _) (keyL_all _) (by first | exact .head | exact (.tail .head) | exact (.tail (.tail .head)) | exact (.tail (.tail (.tail .head))) | exact (.tail (.tail (.tail (.tail .head)))) | exact (.tail (.tail (.tail (.tail (.tail .head))))) | exact (.tail (.tail (.tail (.tail (.tail (.tail .head)))))) | exact (.tail (.tail (.tail (.tail (.tail (.tail (.tail .head))))))) | exact (.tail (.tail (.tail (.tail (.tail (.tail (.tail (.tail .head)))))))) | exact (.tail (.tail (.tail (.tail (.tail (.tail (.tail (.tail (.tail .head))))))))) | exact (.tail (.tail (.tail (.tail (.tail (.tail (.tail (.tail (.tail (.tail .head)))))))))) | exact (.tail (.tail (.tail (.tail (.tail (.tail (.tail (.tail (.tail (.tail (.tail .head))))))))))) | exact (.tail (.tail (.tail (.tail (.tail (.tail (.tail (.tail (.tail (.tail (.tail (.tail .head)))))))))))) | exact (.tail (.tail (.tail (.tail (.tail (.tail (.tail (.tail (.tail (.tail (.tail (.tail (.tail .head)))))))))))))) (by rfl)) ?_
          refine GA_done (by kernel_rfl) ?_
          (repeat (first | (with_reducible refine R_seq ?_) | (with_reducible refine R_block_normal ?_)))
          (repeat (with_reducible refine G_seq ?_))
          refine G_region ?_
          refine GL_y rfl rfl (Y_assign rfl) ?_
          refine GL_nil ?_
          (repeat (first | (with_reducible refine R_seq ?_) | (with_reducible refine R_block_normal ?_)))
          (repeat (with_reducible refine G_seq ?_))
          refine G_block ?_
          (repeat (with_reducible refine G_seq ?_))
          refine G_loop (ι := Nat) (fun q => 32 - q) (fun q => q ≤ 32) (fun q => [(0, .slice ao bs.length c), (2, .slice none 0 0), (3, .bool false), (4, .slice i.ao i.ring.length i.c), (5, .int .i64 (i.pos : Int)), (6, .pointer (some ⟨b6, 0, none⟩)), (7, .int .i64 (q : Int))]) (fun q => ⟨b6, 39, 34, keyL (keyP (bs.drop i.pos) q), (0, 0)⟩ :: i.N) 0 ?_ (⟨by first | rfl | decide, by first | rfl | decide, by first | rfl | decide, by first | rfl | decide, by first | rfl | decide, by first | rfl | decide, by first | rfl | decide, trivial⟩) (by repeat (first | exact .nil | exact Pick.rfl' _ | exact Pick.skip (Pick.rfl' _) | exact Pick.skip (Pick.skip (Pick.rfl' _)) | (apply Pick.cons; focus (first | exact .head | exact (.tail .head) | exact (.tail (.tail .head)) | exact (.tail (.tail (.tail .head))) | exact (.tail (.tail (.tail (.tail .head)))) | exact (.tail (.tail (.tail (.tail (.tail .head))))) | exact (.tail (.tail (.tail (.tail (.tail (.tail .head)))))) | exact (.tail (.tail (.tail (.tail (.tail (.tail (.tail .head))))))) | exact (.tail (.tail (.tail (.tail (.tail (.tail (.tail (.tail .head)))))))) | exact (.tail (.tail (.tail (.tail (.tail (.tail (.tail (.tail (.tail .head))))))))) | exact (.tail (.tail (.tail (.tail (.tail (.tail (.tail (.tail (.tail (.tail .head)))))))))) | exact (.tail (.tail (.tail (.tail (.tail (.tail (.tail (.tail (.tail (.tail (.tail .head))))))))))) | exact (.tail (.tail (.tail (.tail (.tail (.tail (.tail (.tail (.tail (.tail (.tail (.tail .head)))))))))))) | exact (.tail (.tail (.tail (.tail (.tail (.tail (.tail (.tail (.tail (.tail (.tail (.tail (.tail .head))))))))))))))))) ?_
          · omega
          intro q hq
          (repeat (with_reducible refine G_seq ?_))
          refine G_region ?_
          refine GL_y rfl rfl (Y_move rfl) ?_
          refine GL_y rfl rfl (Y_lssN (b := 32) rfl rfl) ?_
          refine GL_nil ?_
          (repeat (first | (with_reducible refine R_seq ?_) | (with_reducible refine R_block_normal ?_)))
          (repeat (with_reducible refine G_seq ?_))
          refine G_cond_dec rfl (fun ht43 => ?_) (fun ht43 => ?_)
          · -- yes
            (repeat (with_reducible refine G_seq ?_))
            refine G_skip ?_
            (repeat (first | (with_reducible refine R_seq ?_) | (with_reducible refine R_block_normal ?_)))
            (repeat (with_reducible refine G_seq ?_))
            refine G_block ?_
            have hxq : bs[i.pos + 4 + q]? = some (bAt (bs.drop i.pos) (4 + q)) := by
              rw [bAt_drop, bAt, ← Nat.add_assoc, List.getElem?_eq_getElem (by omega)]; rfl
            (repeat (with_reducible refine G_seq ?_))
            refine G_region ?_
            refine GL_y rfl rfl (Y_move rfl) ?_
            refine GL_y rfl rfl (Y_move rfl) ?_
            refine GL_y rfl rfl (Y_move rfl) ?_
            refine GL_y rfl rfl (Y_addN (b := 4) rfl rfl (by first | omega | decide)) ?_
            refine GL_y rfl rfl (Y_move rfl) ?_
            refine GL_y rfl rfl (Y_addN rfl rfl (by first | omega | decide)) ?_
            refine GL_y rfl rfl (Y_bAt (j := i.pos + 4 + q) hs rfl rfl hxq rfl) ?_
            refine GL_y rfl rfl (Y_bGet hs (by simp) rfl hxq) ?_
            refine GL_y rfl rfl (Y_field fd39_1 rfl) ?_
            refine GL_y rfl rfl (Y_idxA1 ar28 rfl rfl (by first | omega | decide)) ?_
            refine GL_s rfl (S_sc rfl sc5 rfl rfl (by first | exact .head | exact (.tail .head) | exact (.tail (.tail .head)) | exact (.tail (.tail (.tail .head))) | exact (.tail (.tail (.tail (.tail .head)))) | exact (.tail (.tail (.tail (.tail (.tail .head))))) | exact (.tail (.tail (.tail (.tail (.tail (.tail .head)))))) | exact (.tail (.tail (.tail (.tail (.tail (.tail (.tail .head))))))) | exact (.tail (.tail (.tail (.tail (.tail (.tail (.tail (.tail .head)))))))) | exact (.tail (.tail (.tail (.tail (.tail (.tail (.tail (.tail (.tail .head))))))))) | exact (.tail (.tail (.tail (.tail (.tail (.tail (.tail (.tail (.tail (.tail .head)))))))))) | exact (.tail (.tail (.tail (.tail (.tail (.tail (.tail (.tail (.tail (.tail (.tail .head))))))))))) | exact (.tail (.tail (.tail (.tail (.tail (.tail (.tail (.tail (.tail (.tail (.tail (.tail .head)))))))))))) | exact (.tail (.tail (.tail (.tail (.tail (.tail (.tail (.tail (.tail (.tail (.tail (.tail (.tail .head)))))))))))))) (keyP_set _ ht43)) ?_
            refine GL_nil ?_
            (repeat (first | (with_reducible refine R_seq ?_) | (with_reducible refine R_block_normal ?_)))
            (repeat (with_reducible refine G_seq ?_))
            refine G_region ?_
            refine GL_y rfl rfl (Y_move rfl) ?_
            refine GL_y rfl rfl (Y_addN (b := 1) rfl rfl (by first | omega | decide)) ?_
            refine GL_y rfl rfl (Y_assign rfl) ?_
            refine GL_nil ?_
            (repeat (first | (with_reducible refine R_seq ?_) | (with_reducible refine R_block_normal ?_)))
            (repeat (with_reducible refine R_block_normal ?_))
            refine R_fam (q + 1) ?_ (⟨by first | rfl | decide, by first | rfl | decide, by first | rfl | decide, by first | rfl | decide, by first | rfl | decide, by first | rfl | decide, by first | rfl | decide, trivial⟩) (by repeat (first | exact .nil | exact Pick.rfl' _ | exact Pick.skip (Pick.rfl' _) | exact Pick.skip (Pick.skip (Pick.rfl' _)) | (apply Pick.cons; focus (first | exact .head | exact (.tail .head) | exact (.tail (.tail .head)) | exact (.tail (.tail (.tail .head))) | exact (.tail (.tail (.tail (.tail .head)))) | exact (.tail (.tail (.tail (.tail (.tail .head))))) | exact (.tail (.tail (.tail (.tail (.tail (.tail .head)))))) | exact (.tail (.tail (.tail (.tail (.tail (.tail (.tail .head))))))) | exact (.tail (.tail (.tail (.tail (.tail (.tail (.tail (.tail .head)))))))) | exact (.tail (.tail (.tail (.tail (.tail (.tail (.tail (.tail (.tail .head))))))))) | exact (.tail (.tail (.tail (.tail (.tail (.tail (.tail (.tail (.tail (.tail .head)))))))))) | exact (.tail (.tail (.tail (.tail (.tail (.tail (.tail (.tail (.tail (.tail (.tail .head))))))))))) | exact (.tail (.tail (.tail (.tail (.tail (.tail (.tail (.tail (.tail (.tail (.tail (.tail .head)))))))))))) | exact (.tail (.tail (.tail (.tail (.tail (.tail (.tail (.tail (.tail (.tail (.tail (.tail (.tail .head)))))))))))))))))
            exact ⟨by omega, by omega⟩
          · -- no
            (repeat (with_reducible refine G_seq ?_))
            refine G_exit ?_
            (repeat (first | (with_reducible refine R_then_exit ?_) | (with_reducible refine R_block_exit ?_) | (with_reducible refine R_block_other (by decide) ?_)))
            (repeat (first | (with_reducible refine R_seq ?_) | (with_reducible refine R_block_normal ?_)))
            obtain rfl : q = 32 := by omega
            (repeat (with_reducible refine G_seq ?_))
            refine G_region ?_
            refine GL_y rfl rfl (Y_move rfl) ?_
            refine GL_y rfl rfl (Y_loadA (xs := keyL (keyP (bs.drop i.pos) 32)) rfl (by first | exact .head _ | exact .tail _ (.head _) | exact .tail _ (.tail _ (.head _)) | exact .tail _ (.tail _ (.tail _ (.head _))) | exact .tail _ (.tail _ (.tail _ (.tail _ (.head _)))) | exact .tail _ (.tail _ (.tail _ (.tail _ (.tail _ (.head _))))) | exact .tail _ (.tail _ (.tail _ (.tail _ (.tail _ (.tail _ (.head _)))))) | exact .tail _ (.tail _ (.tail _ (.tail _ (.tail _ (.tail _ (.tail _ (.head _))))))) | exact .tail _ (.tail _ (.tail _ (.tail _ (.tail _ (.tail _ (.tail _ (.tail _ (.head _)))))))) | exact .tail _ (.tail _ (.tail _ (.tail _ (.tail _ (.tail _ (.tail _ (.tail _ (.tail _ (.head _))))))))) | exact .tail _ (.tail _ (.tail _ (.tail _ (.tail _ (.tail _ (.tail _ (.tail _ (.tail _ (.tail _ (.head _)))))))))) | exact .tail _ (.tail _ (.tail _ (.tail _ (.tail _ (.tail _ (.tail _ (.tail _ (.tail _ (.tail _ (.tail _ (.head _))))))))))) | exact .tail _ (.tail _ (.tail _ (.tail _ (.tail _ (.tail _ (.tail _ (.tail _ (.tail _ (.tail _ (.tail _ (.tail _ (.head _)))))))))))) | exact .tail _ (.tail _ (.tail _ (.tail _ (.tail _ (.tail _ (.tail _ (.tail _ (.tail _ (.tail _ (.tail _ (.tail _ (.tail _ (.head _)))))))))))))) ag39 (keyL_len _)) ?_
            refine GL_w rfl rfl (W_bs1 (xs := keyL (keyP (bs.drop i.pos) 32)) Try.underlying22 el39 rfl (keyL_len _) (by decide) (by decide) fun b58 => ?_)
            refine GL_w rfl rfl (W_appKey (kd := keyOf (bs.drop i.pos)) hO rfl rfl rfl (by omega) (.skip (.skip (Pick.rfl' _))) (by first | exact .head _ | exact .tail _ (.head _) | exact .tail _ (.tail _ (.head _)) | exact .tail _ (.tail _ (.tail _ (.head _))) | exact .tail _ (.tail _ (.tail _ (.tail _ (.head _)))) | exact .tail _ (.tail _ (.tail _ (.tail _ (.tail _ (.head _))))) | exact .tail _ (.tail _ (.tail _ (.tail _ (.tail _ (.tail _ (.head _)))))) | exact .tail _ (.tail _ (.tail _ (.tail _ (.tail _ (.tail _ (.tail _ (.head _))))))) | exact .tail _ (.tail _ (.tail _ (.tail _ (.tail _ (.tail _ (.tail _ (.tail _ (.head _)))))))) | exact .tail _ (.tail _ (.tail _ (.tail _ (.tail _ (.tail _ (.tail _ (.tail _ (.tail _ (.head _))))))))) | exact .tail _ (.tail _ (.tail _ (.tail _ (.tail _ (.tail _ (.tail _ (.tail _ (.tail _ (.tail _ (.head _)))))))))) | exact .tail _ (.tail _ (.tail _ (.tail _ (.tail _ (.tail _ (.tail _ (.tail _ (.tail _ (.tail _ (.tail _ (.head _))))))))))) | exact .tail _ (.tail _ (.tail _ (.tail _ (.tail _ (.tail _ (.tail _ (.tail _ (.tail _ (.tail _ (.tail _ (.tail _ (.head _)))))))))))) | exact .tail _ (.tail _ (.tail _ (.tail _ (.tail _ (.tail _ (.tail _ (.tail _ (.tail _ (.tail _ (.tail _ (.tail _ (.tail _ (.head _)))))))))))))) fun b59 c59 => ?_)
            refine GL_y rfl rfl (Y_assign rfl) ?_
            refine GL_nil ?_
            (repeat (first | (with_reducible refine R_seq ?_) | (with_reducible refine R_block_normal ?_)))
            (repeat (with_reducible refine G_seq ?_))
            refine G_region ?_
            refine GL_y rfl rfl (Y_move rfl) ?_
            refine GL_y rfl rfl (Y_addN (b := 37) rfl rfl (by first | omega | decide)) ?_
            refine GL_y rfl rfl (Y_assign rfl) ?_
            refine GL_nil ?_
            (repeat (first | (with_reducible refine R_seq ?_) | (with_reducible refine R_block_normal ?_)))
            (repeat (with_reducible refine R_block_normal ?_))
            refine R_fam ⟨some ⟨b59, 0, none⟩, c59, [⟨b59, 39, c59 * 34, ringL (i.ring ++ [keyOf (bs.drop i.pos)]), (0, 0)⟩], i.ring ++ [keyOf (bs.drop i.pos)], i.pos + 37⟩ ?_ (⟨by first | rfl | decide, by first | rfl | decide, by first | rfl | decide, by first | rfl | decide, by first | rfl | decide, trivial⟩) (by repeat (first | exact .nil | exact Pick.rfl' _ | exact Pick.skip (Pick.rfl' _) | exact Pick.skip (Pick.skip (Pick.rfl' _)) | (apply Pick.cons; focus (first | exact .head | exact (.tail .head) | exact (.tail (.tail .head)) | exact (.tail (.tail (.tail .head))) | exact (.tail (.tail (.tail (.tail .head)))) | exact (.tail (.tail (.tail (.tail (.tail .head))))) | exact (.tail (.tail (.tail (.tail (.tail (.tail .head)))))) | exact (.tail (.tail (.tail (.tail (.tail (.tail (.tail .head))))))) | exact (.tail (.tail (.tail (.tail (.tail (.tail (.tail (.tail .head)))))))) | exact (.tail (.tail (.tail (.tail (.tail (.tail (.tail (.tail (.tail .head))))))))) | exact (.tail (.tail (.tail (.tail (.tail (.tail (.tail (.tail (.tail (.tail .head)))))))))) | exact (.tail (.tail (.tail (.tail (.tail (.tail (.tail (.tail (.tail (.tail (.tail .head))))))))))) | exact (.tail (.tail (.tail (.tail (.tail (.tail (.tail (.tail (.tail (.tail (.tail (.tail .head)))))))))))) | exact (.tail (.tail (.tail (.tail (.tail (.tail (.tail (.tail (.tail (.tail (.tail (.tail (.tail .head)))))))))))))))))
            refine ⟨⟨by simp only [List.length_append, List.length_singleton]; omega, by simp only; omega, .inr ⟨b59, rfl, rfl⟩, ?_⟩, by simp only; omega⟩
            have h := keysOf_app hk hr8 (by rw [List.length_drop]; omega)
            rw [List.drop_drop] at h
            exact h
      · -- no
        (repeat (with_reducible refine G_seq ?_))
        refine G_exit ?_
        (repeat (first | (with_reducible refine R_then_exit ?_) | (with_reducible refine R_block_exit ?_) | (with_reducible refine R_block_other (by decide) ?_)))
        (repeat (first | (with_reducible refine R_seq ?_) | (with_reducible refine R_block_normal ?_)))
        have hks : keysOf 8 (bs.drop 8) = i.ring := keysOf_all hk (by omega)
        rw [hks] at hm
        (repeat (with_reducible refine G_seq ?_))
        refine G_draw [] 11 rfl (by kernel_rfl) ?_
        refine GA_y 0 rfl (by kernel_rfl) (by kernel_rfl) (by kernel_rfl) (fun _ _ _ h => h) rfl rfl rfl (Y_move rfl) ?_
        refine GA_one 1 (by kernel_rfl) ?_
        refine GO_call rfl rfl rfl rfl rfl rfl Try.call13 (fun w hw => refMay_is (hO.sl hw) (by omega) hm) ?_
        rintro _ _ ⟨rfl, rfl⟩
        refine GA_y 2 rfl (by kernel_rfl) (by kernel_rfl) (by kernel_rfl) (fun _ _ _ h => h) rfl rfl rfl (Y_not rfl) ?_
        refine GA_y 3 rfl (by kernel_rfl) (by kernel_rfl) (by kernel_rfl) (fun _ _ _ h => h) rfl rfl rfl (Y_move rfl) ?_
        refine GA_skip 4 rfl (by kernel_rfl) (by kernel_rfl) (by kernel_rfl) (fun _ _ _ h => h) rfl rfl rfl ?_
        refine GA_skip 5 rfl (by kernel_rfl) (by kernel_rfl) (by kernel_rfl) (fun _ _ _ h => h) rfl rfl rfl ?_
        refine GA_skip 6 rfl (by kernel_rfl) (by kernel_rfl) (by kernel_rfl) (fun _ _ _ h => h) rfl rfl rfl ?_
        refine GA_skip 7 rfl (by kernel_rfl) (by kernel_rfl) (by kernel_rfl) (fun _ _ _ h => h) rfl rfl rfl ?_
        refine GA_skip 8 rfl (by kernel_rfl) (by kernel_rfl) (by kernel_rfl) (fun _ _ _ h => h) rfl rfl rfl ?_
        refine GA_skip 9 rfl (by kernel_rfl) (by kernel_rfl) (by kernel_rfl) (fun _ _ _ h => h) rfl rfl rfl ?_
        refine GA_y 10 rfl (by kernel_rfl) (by kernel_rfl) (by kernel_rfl) (fun _ _ _ h => h) rfl rfl rfl (Y_pick rfl rfl rfl rfl) ?_
        refine GA_done (by kernel_rfl) ?_
        (repeat (first | (with_reducible refine R_seq ?_) | (with_reducible refine R_block_normal ?_)))
        (repeat (with_reducible refine G_seq ?_))
        refine G_cond_t rfl (by first | rfl | decide | (simp; done) | (simp; omega)) ?_
        (repeat (with_reducible refine G_seq ?_))
        refine G_region ?_
        refine GL_y rfl rfl (Y_assign rfl) ?_
        refine GL_y rfl rfl (Y_assign rfl) ?_
        refine GL_nil ?_
        (repeat (first | (with_reducible refine R_seq ?_) | (with_reducible refine R_block_normal ?_)))
        (repeat (with_reducible refine G_seq ?_))
        refine G_ret ?_
        (repeat (first | (with_reducible refine R_then_ret ?_) | (with_reducible refine R_block_ret ?_)))
        refine R_ret (.tmp rfl (.tmp rfl .nil)) [] .nil ⟨rfl, rfl⟩
set_option maxHeartbeats 4000000 in
theorem refParse_ne {ao : Option Addr} {c : Nat} {bs : List UInt8} {w : World} (hs : SlAt w ao (B bs)) (hc : bs.length ≤ c) (hl : bs.length ≤ 1000) (h8 : 8 ≤ bs.length) (h2 : (bs.length - 8) % 37 = 0) (h3 : bs.length ≤ 304) (hm : mayB (keysOf 8 (bs.drop 8)) = true) (hb : ¬ bytesD (keysOf 8 (bs.drop 8)) = bs) : FnAt Try.prog 18 [.slice ao bs.length c] [] w (Ret fun v N => v = .tuple #[.slice none 0 0, .bool false] ∧ N = []) := by
  refine FnAt.intro Try.func18 rfl Try.ntmps18 rfl _ rfl ?_
  (repeat (with_reducible refine G_seq ?_))
  refine G_region ?_
  refine GL_y rfl rfl (Y_assign rfl) ?_
  refine GL_y rfl rfl (Y_assign rfl) ?_
  refine GL_nil ?_
  (repeat (first | (with_reducible refine R_seq ?_) | (with_reducible refine R_block_normal ?_)))
  (repeat (with_reducible refine G_seq ?_))
  refine G_region ?_
  refine GL_y rfl rfl (Y_move rfl) ?_
  refine GL_y rfl rfl (Y_len sl24 rfl) ?_
  refine GL_y rfl rfl (Y_lssN (b := 8) rfl rfl) ?_
  refine GL_y rfl rfl (Y_move rfl) ?_
  refine GL_bool 11 rfl (fun g11 => ?_) (fun g11 => ?_)
  · -- g11 True
    exact absurd (of_decide_eq_true g11) (by omega)
  · -- g11 False
    have g11' := of_decide_eq_false g11
    refine GL_y rfl rfl (Y_move rfl) ?_
    refine GL_y rfl rfl (Y_len sl24 rfl) ?_
    refine GL_y rfl rfl (Y_subN (b := 8) rfl rfl (by first | omega | decide) (by first | omega | decide)) ?_
    refine GL_y rfl rfl (Y_remN (b := 37) rfl rfl (by first | omega | decide)) ?_
    refine GL_y rfl rfl (Y_neqN (b := 0) rfl rfl) ?_
    refine GL_y rfl rfl (Y_pick rfl rfl rfl rfl) ?_
    refine GL_y rfl rfl (Y_move rfl) ?_
    refine GL_bool 18 rfl (fun g18 => ?_) (fun g18 => ?_)
    · -- g18 True
      exact absurd (of_decide_eq_true g18) (by simp only [ne_eq, Decidable.not_not]; exact h2)
    · -- g18 False
      refine GL_y rfl rfl (Y_move rfl) ?_
      refine GL_y rfl rfl (Y_len sl24 rfl) ?_
      refine GL_y rfl rfl (Y_gtrN (b := 304) rfl rfl) ?_
      refine GL_y rfl rfl (Y_pick rfl rfl rfl rfl) ?_
      refine GL_nil ?_
      (repeat (first | (with_reducible refine R_seq ?_) | (with_reducible refine R_block_normal ?_)))
      (repeat (with_reducible refine G_seq ?_))
      refine G_cond_f rfl (by simp; omega) ?_
      (repeat (with_reducible refine G_seq ?_))
      refine G_skip ?_
      (repeat (first | (with_reducible refine R_seq ?_) | (with_reducible refine R_block_normal ?_)))
      (repeat (with_reducible refine G_seq ?_))
      refine G_region ?_
      refine GL_y rfl rfl (Y_assign rfl) ?_
      refine GL_nil ?_
      (repeat (first | (with_reducible refine R_seq ?_) | (with_reducible refine R_block_normal ?_)))
      (repeat (with_reducible refine G_seq ?_))
      refine G_region ?_
      refine GL_y rfl rfl (Y_assign rfl) ?_
      refine GL_nil ?_
      (repeat (first | (with_reducible refine R_seq ?_) | (with_reducible refine R_block_normal ?_)))
      (repeat (with_reducible refine G_seq ?_))
      refine G_block ?_
      (repeat (with_reducible refine G_seq ?_))
      refine G_loop (ι := RPI) (fun i => bs.length - i.pos) (fun i => i.pos = 8 + 37 * i.ring.length ∧ i.pos ≤ bs.length ∧ Own i.N i.ao i.c i.ring ∧ keysOf 8 (bs.drop 8) = i.ring ++ keysOf (8 - i.ring.length) (bs.drop i.pos)) (fun i => [(0, .slice ao bs.length c), (2, .slice none 0 0), (3, .bool false), (4, .slice i.ao i.ring.length i.c), (5, .int .i64 (i.pos : Int))]) (fun i => i.N) ⟨none, 0, [], [], 8⟩ ?_ (⟨by first | rfl | decide, by first | rfl | decide, by first | rfl | decide, by first | rfl | decide, by first | rfl | decide, trivial⟩) (by repeat (first | exact .nil | exact Pick.rfl' _ | exact Pick.skip (Pick.rfl' _) | exact Pick.skip (Pick.skip (Pick.rfl' _)) | (apply Pick.cons; focus (first | exact .head | exact (.tail .head) | exact (.tail (.tail .head)) | exact (.tail (.tail (.tail .head))) | exact (.tail (.tail (.tail (.tail .head)))) | exact (.tail (.tail (.tail (.tail (.tail .head))))) | exact (.tail (.tail (.tail (.tail (.tail (.tail .head)))))) | exact (.tail (.tail (.tail (.tail (.tail (.tail (.tail .head))))))) | exact (.tail (.tail (.tail (.tail (.tail (.tail (.tail (.tail .head)))))))) | exact (.tail (.tail (.tail (.tail (.tail (.tail (.tail (.tail (.tail .head))))))))) | exact (.tail (.tail (.tail (.tail (.tail (.tail (.tail (.tail (.tail (.tail .head)))))))))) | exact (.tail (.tail (.tail (.tail (.tail (.tail (.tail (.tail (.tail (.tail (.tail .head))))))))))) | exact (.tail (.tail (.tail (.tail (.tail (.tail (.tail (.tail (.tail (.tail (.tail (.tail .head)))))))))))) | exact (.tail (.tail (.tail (.tail (.tail (.tail (.tail (.tail (.tail (.tail (.tail (.tail (.tail .head))))))))))))))))) ?_
      · exact ⟨rfl, h8, .inl ⟨rfl, rfl, rfl, rfl⟩, by simp⟩
      intro i ⟨hpos, hple, hO, hk⟩
      (repeat (with_reducible refine G_seq ?_))
      refine G_region ?_
      refine GL_y rfl rfl (Y_move rfl) ?_
      refine GL_y rfl rfl (Y_move rfl) ?_
      refine GL_y rfl rfl (Y_len sl24 rfl) ?_
      refine GL_y rfl rfl (Y_lssN rfl rfl) ?_
      refine GL_nil ?_
      (repeat (first | (with_reducible refine R_seq ?_) | (with_reducible refine R_block_normal ?_)))
      (repeat (with_reducible refine G_seq ?_))
      refine G_cond_dec rfl (fun ht26 => ?_) (fun ht26 => ?_)
      · -- yes
        (repeat (with_reducible refine G_seq ?_))
        refine G_skip ?_
        (repeat (first | (with_reducible refine R_seq ?_) | (with_reducible refine R_block_normal ?_)))
        (repeat (with_reducible refine G_seq ?_))
        refine G_block ?_
        have h37 : i.pos + 37 ≤ bs.length := by omega
        have hr8 : i.ring.length < 8 := by omega
        have hx0 : ((bs.drop i.pos).take 4)[0]? = some (bAt (bs.drop i.pos) 0) := by
          rw [List.getElem?_take, if_pos (by decide), bAt, List.getElem?_eq_getElem (by rw [List.length_drop]; omega)]; rfl
        have hx1 : ((bs.drop i.pos).take 4)[1]? = some (bAt (bs.drop i.pos) 1) := by
          rw [List.getElem?_take, if_pos (by decide), bAt, List.getElem?_eq_getElem (by rw [List.length_drop]; omega)]; rfl
        have hx2 : ((bs.drop i.pos).take 4)[2]? = some (bAt (bs.drop i.pos) 2) := by
          rw [List.getElem?_take, if_pos (by decide), bAt, List.getElem?_eq_getElem (by rw [List.length_drop]; omega)]; rfl
        have hx3 : ((bs.drop i.pos).take 4)[3]? = some (bAt (bs.drop i.pos) 3) := by
          rw [List.getElem?_take, if_pos (by decide), bAt, List.getElem?_eq_getElem (by rw [List.length_drop]; omega)]; rfl
        have hx36 : bs[i.pos + 36]? = some (bAt (bs.drop i.pos) 36) := by
          rw [bAt_drop, bAt, List.getElem?_eq_getElem (by omega)]; rfl
        have hsl : SlAt w (subA ao c i.pos 1) (B ((bs.drop i.pos).take 4)) := by
          have h := (hs.drop c i.pos 1 (by rw [len_B]; omega)).take 4
          have e : ((B bs).drop (i.pos * 1)).take 4 = B ((bs.drop i.pos).take 4) := by simp [B, List.map_drop, List.map_take]
          rw [e] at h
          exact h
        (repeat (with_reducible refine G_seq ?_))
        refine G_draw [14] 15 rfl (by kernel_rfl) ?_
        refine GA_y 0 rfl (by kernel_rfl) (by kernel_rfl) (by kernel_rfl) (fun _ _ _ h => h) rfl rfl rfl (Y_move rfl) ?_
        refine GA_y 1 rfl (by kernel_rfl) (by kernel_rfl) (by kernel_rfl) (fun _ _ _ h => h) rfl rfl rfl (Y_move rfl) ?_
        refine GA_y 2 rfl (by kernel_rfl) (by kernel_rfl) (by kernel_rfl) (fun _ _ _ h => h) rfl rfl rfl (Y_move rfl) ?_
        refine GA_y 3 rfl (by kernel_rfl) (by kernel_rfl) (by kernel_rfl) (fun _ _ _ h => h) rfl rfl rfl (Y_addN (b := 4) rfl rfl (by first | omega | decide)) ?_
        refine GA_y 4 rfl (by kernel_rfl) (by kernel_rfl) (by kernel_rfl) (fun _ _ _ h => h) rfl rfl rfl (Y_slS (vl := some _) (vh := some _) (kl := i.pos) (kh := i.pos + 4) sl24 rfl rfl rfl ⟨_, rfl⟩ ⟨_, rfl⟩ (by omega) (by omega) hc) ?_
        refine GA_y 6 rfl (by kernel_rfl) (by kernel_rfl) (by kernel_rfl) (fun _ _ _ h => h) rfl rfl rfl (Y_move rfl) ?_
        refine GA_y 7 rfl (by kernel_rfl) (by kernel_rfl) (by kernel_rfl) (fun _ _ _ h => h) rfl rfl rfl (Y_move rfl) ?_
        refine GA_y 8 rfl (by kernel_rfl) (by kernel_rfl) (by kernel_rfl) (fun _ _ _ h => h) rfl rfl rfl (Y_addN (b := 36) rfl rfl (by first | omega | decide)) ?_
        refine GA_y 9 rfl (by kernel_rfl) (by kernel_rfl) (by kernel_rfl) (fun _ _ _ h => h) rfl rfl rfl (Y_bAt (j := i.pos + 36) hs rfl rfl hx36 rfl) ?_
        refine GA_y 10 rfl (by kernel_rfl) (by kernel_rfl) (by kernel_rfl) (fun _ _ _ h => h) rfl rfl rfl (Y_bGet hs (by simp) rfl hx36) ?_
        refine GA_y 11 rfl (by kernel_rfl) (by kernel_rfl) (by kernel_rfl) (fun _ _ _ h => h) rfl rfl rfl ((Y_iop rfl rfl rfl).as (.bool (decide ((bAt (bs.drop i.pos) 36) = 1))) (congrArg Value.bool (decide_eq_decide.2 ⟨fun h => UInt8.toNat_inj.1 (by have h' : ((bAt (bs.drop i.pos) 36).toNat : Int) = 1 := h; show (bAt (bs.drop i.pos) 36).toNat = 1; omega), fun h => by rw [h]; rfl⟩))) ?_
        refine GA_all [5, 13] (by kernel_rfl) rfl ⟨?_, ?_, trivial⟩
        · -- 5 comes up
          refine GO_call rfl rfl rfl rfl rfl rfl Try.call25 (fun w hw => number_is (hsl.keep hw (by simp)) (by rw [List.length_take, List.length_drop]; omega) hx0 hx1 hx2 hx3) ?_
          rintro _ _ ⟨rfl, rfl⟩
          refine GA_y 12 rfl (by kernel_rfl) (by kernel_rfl) (by kernel_rfl) (fun _ _ _ h => h) rfl rfl rfl (Y_build (v := .agg (keyL (keyP (bs.drop i.pos) 0)).toArray) (vs := [(0, .int .i64 (keyP (bs.drop i.pos) 0).num), (2, .bool (keyP (bs.drop i.pos) 0).rev)]) rfl (fun w => build39' (keyP (bs.drop i.pos) 0) (partB_zero _) w)) ?_
          refine GA_one 13 (by kernel_rfl) ?_
          refine GO_w rfl rfl rfl rfl (W_alloc zr39 fun b6 => ⟨⟨_, by repeat (first | exact .nil | exact Pick.rfl' _ | exact Pick.skip (Pick.rfl' _) | exact Pick.skip (Pick.skip (Pick.rfl' _)) | (apply Pick.cons; focus (first | exact .head | exact (.tail .head) | exact (.tail (.tail .head)) | exact (.tail (.tail (.tail .head))) | exact (.tail (.tail (.tail (.tail .head)))) | exact (.tail (.tail (.tail (.tail (.tail .head))))) | exact (.tail (.tail (.tail (.tail (.tail (.tail .head)))))) | exact (.tail (.tail (.tail (.tail (.tail (.tail (.tail .head))))))) | exact (.tail (.tail (.tail (.tail (.tail (.tail (.tail (.tail .head)))))))) | exact (.tail (.tail (.tail (.tail (.tail (.tail (.tail (.tail (.tail .head))))))))) | exact (.tail (.tail (.tail (.tail (.tail (.tail (.tail (.tail (.tail (.tail .head)))))))))) | exact (.tail (.tail (.tail (.tail (.tail (.tail (.tail (.tail (.tail (.tail (.tail .head))))))))))) | exact (.tail (.tail (.tail (.tail (.tail (.tail (.tail (.tail (.tail (.tail (.tail (.tail .head)))))))))))) | exact (.tail (.tail (.tail (.tail (.tail (.tail (.tail (.tail (.tail (.tail (.tail (.tail (.tail .head))))))))))))))))⟩, ?_⟩)
          refine GA_one 14 (by kernel_rfl) ?_
          refine GO_s rfl rfl rfl (S_all rfl rfl ag39 (keyL_len _) (keyL_all _) (by first | exact .head | exact (.tail .head) | exact (.tail (.tail .head)) | exact (.tail (.tail (.tail .head))) | exact (.tail (.tail (.tail (.tail .head)))) | exact (.tail (.tail (.tail (.tail (.tail .head))))) | exact (.tail (.tail (.tail (.tail (.tail (.tail .head)))))) | exact (.tail (.tail (.tail (.tail (.tail (.tail (.tail .head))))))) | exact (.tail (.tail (.tail (.tail (.tail (.tail (.tail (.tail .head)))))))) | exact (.tail (.tail (.tail (.tail (.tail (.tail (.tail (.tail (.tail .head))))))))) | exact (.tail (.tail (.tail (.tail (.tail (.tail (.tail (.tail (.tail (.tail .head)))))))))) | exact (.tail (.tail (.tail (.tail (.tail (.tail (.tail (.tail (.tail (.tail (.tail .head))))))))))) | exact (.tail (.tail (.tail (.tail (.tail (.tail (.tail (.tail (.tail (.tail (.tail (.tail .head)))))))))))) | exact (.tail (.tail (.tail (.tail (.tail (.tail (.tail (.tail (.tail (.tail (.tail (.tail (.tail .head)))))))))))))) (by rfl)) ?_
          refine GA_done (by kernel_rfl) ?_
          (repeat (first | (with_reducible refine R_seq ?_) | (with_reducible refine R_block_normal ?_)))
          (repeat (with_reducible refine G_seq ?_))
          refine G_region ?_
          refine GL_y rfl rfl (Y_assign rfl) ?_
          refine GL_nil ?_
          (repeat (first | (with_reducible refine R_seq ?_) | (with_reducible refine R_block_normal ?_)))
          (repeat (with_reducible refine G_seq ?_))
          refine G_block ?_
          (repeat (with_reducible refine G_seq ?_))
          refine G_loop (ι := Nat) (fun q => 32 - q) (fun q => q ≤ 32) (fun q => [(0, .slice ao bs.length c), (2, .slice none 0 0), (3, .bool false), (4, .slice i.ao i.ring.length i.c), (5, .int .i64 (i.pos : Int)), (6, .pointer (some ⟨b6, 0, none⟩)), (7, .int .i64 (q : Int))]) (fun q => ⟨b6, 39, 34, keyL (keyP (bs.drop i.pos) q), (0, 0)⟩ :: i.N) 0 ?_ (⟨by first | rfl | decide, by first | rfl | decide, by first | rfl | decide, by first | rfl | decide, by first | rfl | decide, by first | rfl | decide, by first | rfl | decide, trivial⟩) (by repeat (first | exact .nil | exact Pick.rfl' _ | exact Pick.skip (Pick.rfl' _) | exact Pick.skip (Pick.skip (Pick.rfl' _)) | (apply Pick.cons; focus (first | exact .head | exact (.tail .head) | exact (.tail (.tail .head)) | exact (.tail (.tail (.tail .head))) | exact (.tail (.tail (.tail (.tail .head)))) | exact (.tail (.tail (.tail (.tail (.tail .head))))) | exact (.tail (.tail (.tail (.tail (.tail (.tail .head)))))) | exact (.tail (.tail (.tail (.tail (.tail (.tail (.tail .head))))))) | exact (.tail (.tail (.tail (.tail (.tail (.tail (.tail (.tail .head)))))))) | exact (.tail (.tail (.tail (.tail (.tail (.tail (.tail (.tail (.tail .head))))))))) | exact (.tail (.tail (.tail (.tail (.tail (.tail (.tail (.tail (.tail (.tail .head)))))))))) | exact (.tail (.tail (.tail (.tail (.tail (.tail (.tail (.tail (.tail (.tail (.tail .head))))))))))) | exact (.tail (.tail (.tail (.tail (.tail (.tail (.tail (.tail (.tail (.tail (.tail (.tail .head)))))))))))) | exact (.tail (.tail (.tail (.tail (.tail (.tail (.tail (.tail (.tail (.tail (.tail (.tail (.tail .head))))))))))))))))) ?_
          · omega
          intro q hq
          (repeat (with_reducible refine G_seq ?_))
          refine G_region ?_
          refine GL_y rfl rfl (Y_move rfl) ?_
          refine GL_y rfl rfl (Y_lssN (b := 32) rfl rfl) ?_
          refine GL_nil ?_
          (repeat (first | (with_reducible refine R_seq ?_) | (with_reducible refine R_block_normal ?_)))
          (repeat (with_reducible refine G_seq ?_))
          refine G_cond_dec rfl (fun ht43 => ?_) (fun ht43 => ?_)
          · -- yes
            (repeat (with_reducible refine G_seq ?_))
            refine G_skip ?_
            (repeat (first | (with_reducible refine R_seq ?_) | (with_reducible refine R_block_normal ?_)))
            (repeat (with_reducible refine G_seq ?_))
            refine G_block ?_
            have hxq : bs[i.pos + 4 + q]? = some (bAt (bs.drop i.pos) (4 + q)) := by
              rw [bAt_drop, bAt, ← Nat.add_assoc, List.getElem?_eq_getElem (by omega)]; rfl
            (repeat (with_reducible refine G_seq ?_))
            refine G_region ?_
            refine GL_y rfl rfl (Y_move rfl) ?_
            refine GL_y rfl rfl (Y_move rfl) ?_
            refine GL_y rfl rfl (Y_move rfl) ?_
            refine GL_y rfl rfl (Y_addN (b := 4) rfl rfl (by first | omega | decide)) ?_
            refine GL_y rfl rfl (Y_move rfl) ?_
            refine GL_y rfl rfl (Y_addN rfl rfl (by first | omega | decide)) ?_
            refine GL_y rfl rfl (Y_bAt (j := i.pos + 4 + q) hs rfl rfl hxq rfl) ?_
            refine GL_y rfl rfl (Y_bGet hs (by simp) rfl hxq) ?_
            refine GL_y rfl rfl (Y_field fd39_1 rfl) ?_
            refine GL_y rfl rfl (Y_idxA1 ar28 rfl rfl (by first | omega | decide)) ?_
            refine GL_s rfl (S_sc rfl sc5 rfl rfl (by first | exact .head | exact (.tail .head) | exact (.tail (.tail .head)) | exact (.tail (.tail (.tail .head))) | exact (.tail (.tail (.tail (.tail .head)))) | exact (.tail (.tail (.tail (.tail (.tail .head))))) | exact (.tail (.tail (.tail (.tail (.tail (.tail .head)))))) | exact (.tail (.tail (.tail (.tail (.tail (.tail (.tail .head))))))) | exact (.tail (.tail (.tail (.tail (.tail (.tail (.tail (.tail .head)))))))) | exact (.tail (.tail (.tail (.tail (.tail (.tail (.tail (.tail (.tail .head))))))))) | exact (.tail (.tail (.tail (.tail (.tail (.tail (.tail (.tail (.tail (.tail .head)))))))))) | exact (.tail (.tail (.tail (.tail (.tail (.tail (.tail (.tail (.tail (.tail (.tail .head))))))))))) | exact (.tail (.tail (.tail (.tail (.tail (.tail (.tail (.tail (.tail (.tail (.tail (.tail .head)))))))))))) | exact (.tail (.tail (.tail (.tail (.tail (.tail (.tail (.tail (.tail (.tail (.tail (.tail (.tail .head)))))))))))))) (keyP_set _ ht43)) ?_
            refine GL_nil ?_
            (repeat (first | (with_reducible refine R_seq ?_) | (with_reducible refine R_block_normal ?_)))
            (repeat (with_reducible refine G_seq ?_))
            refine G_region ?_
            refine GL_y rfl rfl (Y_move rfl) ?_
            refine GL_y rfl rfl (Y_addN (b := 1) rfl rfl (by first | omega | decide)) ?_
            refine GL_y rfl rfl (Y_assign rfl) ?_
            refine GL_nil ?_
            (repeat (first | (with_reducible refine R_seq ?_) | (with_reducible refine R_block_normal ?_)))
            (repeat (with_reducible refine R_block_normal ?_))
            refine R_fam (q + 1) ?_ (⟨by first | rfl | decide, by first | rfl | decide, by first | rfl | decide, by first | rfl | decide, by first | rfl | decide, by first | rfl | decide, by first | rfl | decide, trivial⟩) (by repeat (first | exact .nil | exact Pick.rfl' _ | exact Pick.skip (Pick.rfl' _) | exact Pick.skip (Pick.skip (Pick.rfl' _)) | (apply Pick.cons; focus (first | exact .head | exact (.tail .head) | exact (.tail (.tail .head)) | exact (.tail (.tail (.tail .head))) | exact (.tail (.tail (.tail (.tail .head)))) | exact (.tail (.tail (.tail (.tail (.tail .head))))) | exact (.tail (.tail (.tail (.tail (.tail (.tail .head)))))) | exact (.tail (.tail (.tail (.tail (.tail (.tail (.tail .head))))))) | exact (.tail (.tail (.tail (.tail (.tail (.tail (.tail (.tail .head)))))))) | exact (.tail (.tail (.tail (.tail (.tail (.tail (.tail (.tail (.tail .head))))))))) | exact (.tail (.tail (.tail (.tail (.tail (.tail (.tail (.tail (.tail (.tail .head)))))))))) | exact (.tail (.tail (.tail (.tail (.tail (.tail (.tail (.tail (.tail (.tail (.tail .head))))))))))) | exact (.tail (.tail (.tail (.tail (.tail (.tail (.tail (.tail (.tail (.tail (.tail (.tail .head)))))))))))) | exact (.tail (.tail (.tail (.tail (.tail (.tail (.tail (.tail (.tail (.tail (.tail (.tail (.tail .head)))))))))))))))))
            exact ⟨by omega, by omega⟩
          · -- no
            (repeat (with_reducible refine G_seq ?_))
            refine G_exit ?_
            (repeat (first | (with_reducible refine R_then_exit ?_) | (with_reducible refine R_block_exit ?_) | (with_reducible refine R_block_other (by decide) ?_)))
            (repeat (first | (with_reducible refine R_seq ?_) | (with_reducible refine R_block_normal ?_)))
            obtain rfl : q = 32 := by omega
            (repeat (with_reducible refine G_seq ?_))
            refine G_region ?_
            refine GL_y rfl rfl (Y_move rfl) ?_
            refine GL_y rfl rfl (Y_loadA (xs := keyL (keyP (bs.drop i.pos) 32)) rfl (by first | exact .head _ | exact .tail _ (.head _) | exact .tail _ (.tail _ (.head _)) | exact .tail _ (.tail _ (.tail _ (.head _))) | exact .tail _ (.tail _ (.tail _ (.tail _ (.head _)))) | exact .tail _ (.tail _ (.tail _ (.tail _ (.tail _ (.head _))))) | exact .tail _ (.tail _ (.tail _ (.tail _ (.tail _ (.tail _ (.head _)))))) | exact .tail _ (.tail _ (.tail _ (.tail _ (.tail _ (.tail _ (.tail _ (.head _))))))) | exact .tail _ (.tail _ (.tail _ (.tail _ (.tail _ (.tail _ (.tail _ (.tail _ (.head _)))))))) | exact .tail _ (.tail _ (.tail _ (.tail _ (.tail _ (.tail _ (.tail _ (.tail _ (.tail _ (.head _))))))))) | exact .tail _ (.tail _ (.tail _ (.tail _ (.tail _ (.tail _ (.tail _ (.tail _ (.tail _ (.tail _ (.head _)))))))))) | exact .tail _ (.tail _ (.tail _ (.tail _ (.tail _ (.tail _ (.tail _ (.tail _ (.tail _ (.tail _ (.tail _ (.head _))))))))))) | exact .tail _ (.tail _ (.tail _ (.tail _ (.tail _ (.tail _ (.tail _ (.tail _ (.tail _ (.tail _ (.tail _ (.tail _ (.head _)))))))))))) | exact .tail _ (.tail _ (.tail _ (.tail _ (.tail _ (.tail _ (.tail _ (.tail _ (.tail _ (.tail _ (.tail _ (.tail _ (.tail _ (.head _)))))))))))))) ag39 (keyL_len _)) ?_
            refine GL_w rfl rfl (W_bs1 (xs := keyL (keyP (bs.drop i.pos) 32)) Try.underlying22 el39 rfl (keyL_len _) (by decide) (by decide) fun b58 => ?_)
            refine GL_w rfl rfl (W_appKey (kd := keyOf (bs.drop i.pos)) hO rfl rfl rfl (by omega) (.skip (.skip (Pick.rfl' _))) (by first | exact .head _ | exact .tail _ (.head _) | exact .tail _ (.tail _ (.head _)) | exact .tail _ (.tail _ (.tail _ (.head _))) | exact .tail _ (.tail _ (.tail _ (.tail _ (.head _)))) | exact .tail _ (.tail _ (.tail _ (.tail _ (.tail _ (.head _))))) | exact .tail _ (.tail _ (.tail _ (.tail _ (.tail _ (.tail _ (.head _)))))) | exact .tail _ (.tail _ (.tail _ (.tail _ (.tail _ (.tail _ (.tail _ (.head _))))))) | exact .tail _ (.tail _ (.tail _ (.tail _ (.tail _ (.tail _ (.tail _ (.tail _ (.head _)))))))) | exact .tail _ (.tail _ (.tail _ (.tail _ (.tail _ (.tail _ (.tail _ (.tail _ (.tail _ (.head _))))))))) | exact .tail _ (.tail _ (.tail _ (.tail _ (.tail _ (.tail _ (.tail _ (.tail _ (.tail _ (.tail _ (.head _)))))))))) | exact .tail _ (.tail _ (.tail _ (.tail _ (.tail _ (.tail _ (.tail _ (.tail _ (.tail _ (.tail _ (.tail _ (.head _))))))))))) | exact .tail _ (.tail _ (.tail _ (.tail _ (.tail _ (.tail _ (.tail _ (.tail _ (.tail _ (.tail _ (.tail _ (.tail _ (.head _)))))))))))) | exact .tail _ (.tail _ (.tail _ (.tail _ (.tail _ (.tail _ (.tail _ (.tail _ (.tail _ (.tail _ (.tail _ (.tail _ (.tail _ (.head _)))))))))))))) fun b59 c59 => ?_)
            refine GL_y rfl rfl (Y_assign rfl) ?_
            refine GL_nil ?_
            (repeat (first | (with_reducible refine R_seq ?_) | (with_reducible refine R_block_normal ?_)))
            (repeat (with_reducible refine G_seq ?_))
            refine G_region ?_
            refine GL_y rfl rfl (Y_move rfl) ?_
            refine GL_y rfl rfl (Y_addN (b := 37) rfl rfl (by first | omega | decide)) ?_
            refine GL_y rfl rfl (Y_assign rfl) ?_
            refine GL_nil ?_
            (repeat (first | (with_reducible refine R_seq ?_) | (with_reducible refine R_block_normal ?_)))
            (repeat (with_reducible refine R_block_normal ?_))
            refine R_fam ⟨some ⟨b59, 0, none⟩, c59, [⟨b59, 39, c59 * 34, ringL (i.ring ++ [keyOf (bs.drop i.pos)]), (0, 0)⟩], i.ring ++ [keyOf (bs.drop i.pos)], i.pos + 37⟩ ?_ (⟨by first | rfl | decide, by first | rfl | decide, by first | rfl | decide, by first | rfl | decide, by first | rfl | decide, trivial⟩) (by repeat (first | exact .nil | exact Pick.rfl' _ | exact Pick.skip (Pick.rfl' _) | exact Pick.skip (Pick.skip (Pick.rfl' _)) | (apply Pick.cons; focus (first | exact .head | exact (.tail .head) | exact (.tail (.tail .head)) | exact (.tail (.tail (.tail .head))) | exact (.tail (.tail (.tail (.tail .head)))) | exact (.tail (.tail (.tail (.tail (.tail .head))))) | exact (.tail (.tail (.tail (.tail (.tail (.tail .head)))))) | exact (.tail (.tail (.tail (.tail (.tail (.tail (.tail .head))))))) | exact (.tail (.tail (.tail (.tail (.tail (.tail (.tail (.tail .head)))))))) | exact (.tail (.tail (.tail (.tail (.tail (.tail (.tail (.tail (.tail .head))))))))) | exact (.tail (.tail (.tail (.tail (.tail (.tail (.tail (.tail (.tail (.tail .head)))))))))) | exact (.tail (.tail (.tail (.tail (.tail (.tail (.tail (.tail (.tail (.tail (.tail .head))))))))))) | exact (.tail (.tail (.tail (.tail (.tail (.tail (.tail (.tail (.tail (.tail (.tail (.tail .head)))))))))))) | exact (.tail (.tail (.tail (.tail (.tail (.tail (.tail (.tail (.tail (.tail (.tail (.tail (.tail .head)))))))))))))))))
            refine ⟨⟨by simp only [List.length_append, List.length_singleton]; omega, by simp only; omega, .inr ⟨b59, rfl, rfl⟩, ?_⟩, by simp only; omega⟩
            have h := keysOf_app hk hr8 (by rw [List.length_drop]; omega)
            rw [List.drop_drop] at h
            exact h
        · -- 13 comes up
          refine GO_w rfl rfl rfl rfl (W_alloc zr39 fun b6 => ⟨⟨_, by repeat (first | exact .nil | exact Pick.rfl' _ | exact Pick.skip (Pick.rfl' _) | exact Pick.skip (Pick.skip (Pick.rfl' _)) | (apply Pick.cons; focus (first | exact .head | exact (.tail .head) | exact (.tail (.tail .head)) | exact (.tail (.tail (.tail .head))) | exact (.tail (.tail (.tail (.tail .head)))) | exact (.tail (.tail (.tail (.tail (.tail .head))))) | exact (.tail (.tail (.tail (.tail (.tail (.tail .head)))))) | exact (.tail (.tail (.tail (.tail (.tail (.tail (.tail .head))))))) | exact (.tail (.tail (.tail (.tail (.tail (.tail (.tail (.tail .head)))))))) | exact (.tail (.tail (.tail (.tail (.tail (.tail (.tail (.tail (.tail .head))))))))) | exact (.tail (.tail (.tail (.tail (.tail (.tail (.tail (.tail (.tail (.tail .head)))))))))) | exact (.tail (.tail (.tail (.tail (.tail (.tail (.tail (.tail (.tail (.tail (.tail .head))))))))))) | exact (.tail (.tail (.tail (.tail (.tail (.tail (.tail (.tail (.tail (.tail (.tail (.tail .head)))))))))))) | exact (.tail (.tail (.tail (.tail (.tail (.tail (.tail (.tail (.tail (.tail (.tail (.tail (.tail .head))))))))))))))))⟩, ?_⟩)
          refine GA_one 5 (by kernel_rfl) ?_
          refine GO_call rfl rfl rfl rfl rfl rfl Try.call25 (fun w hw => number_is (hsl.keep hw (by simp)) (by rw [List.length_take, List.length_drop]; omega) hx0 hx1 hx2 hx3) ?_
          rintro _ _ ⟨rfl, rfl⟩
          refine GA_y 12 rfl (by kernel_rfl) (by kernel_rfl) (by kernel_rfl) (fun _ _ _ h => h) rfl rfl rfl (Y_build (v := .agg (keyL (keyP (bs.drop i.pos) 0)).toArray) (vs := [(0, .int .i64 (keyP (bs.drop i.pos) 0).num), (2, .bool (keyP (bs.drop i.pos) 0).rev)]) rfl (fun w => build39' (keyP (bs.drop i.pos) 0) (partB_zero _) w)) ?_
          refine GA_one 14 (by kernel_rfl) ?_
          refine GO_s rfl rfl rfl (S_all rfl rfl ag39 (keyL_len _) (keyL_all _) (by first | exact .head | exact (.tail .head) | exact (.tail (.tail .head)) | exact (.tail (.tail (.tail .head))) | exact (.tail (.tail (.tail (.tail .head)))) | exact (.tail (.tail (.tail (.tail (.tail .head))))) | exact (.tail (.tail (.tail (.tail (.tail (.tail .head)))))) | exact (.tail (.tail (.tail (.tail (.tail (.tail (.tail .head))))))) | exact (.tail (.tail (.tail (.tail (.tail (.tail (.tail (.tail .head)))))))) | exact (.tail (.tail (.tail (.tail (.tail (.tail (.tail (.tail (.tail .head))))))))) | exact (.tail (.tail (.tail (.tail (.tail (.tail (.tail (.tail (.tail (.tail .head)))))))))) | exact (.tail (.tail (.tail (.tail (.tail (.tail (.tail (.tail (.tail (.tail (.tail .head))))))))))) | exact (.tail (.tail (.tail (.tail (.tail (.tail (.tail (.tail (.tail (.tail (.tail (.tail .head)))))))))))) | exact (.tail (.tail (.tail (.tail (.tail (.tail (.tail (.tail (.tail (.tail (.tail (.tail (.tail .head)))))))))))))) (by rfl)) ?_
          refine GA_done (by kernel_rfl) ?_
          (repeat (first | (with_reducible refine R_seq ?_) | (with_reducible refine R_block_normal ?_)))
          (repeat (with_reducible refine G_seq ?_))
          refine G_region ?_
          refine GL_y rfl rfl (Y_assign rfl) ?_
          refine GL_nil ?_
          (repeat (first | (with_reducible refine R_seq ?_) | (with_reducible refine R_block_normal ?_)))
          (repeat (with_reducible refine G_seq ?_))
          refine G_block ?_
          (repeat (with_reducible refine G_seq ?_))
          refine G_loop (ι := Nat) (fun q => 32 - q) (fun q => q ≤ 32) (fun q => [(0, .slice ao bs.length c), (2, .slice none 0 0), (3, .bool false), (4, .slice i.ao i.ring.length i.c), (5, .int .i64 (i.pos : Int)), (6, .pointer (some ⟨b6, 0, none⟩)), (7, .int .i64 (q : Int))]) (fun q => ⟨b6, 39, 34, keyL (keyP (bs.drop i.pos) q), (0, 0)⟩ :: i.N) 0 ?_ (⟨by first | rfl | decide, by first | rfl | decide, by first | rfl | decide, by first | rfl | decide, by first | rfl | decide, by first | rfl | decide, by first | rfl | decide, trivial⟩) (by repeat (first | exact .nil | exact Pick.rfl' _ | exact Pick.skip (Pick.rfl' _) | exact Pick.skip (Pick.skip (Pick.rfl' _)) | (apply Pick.cons; focus (first | exact .head | exact (.tail .head) | exact (.tail (.tail .head)) | exact (.tail (.tail (.tail .head))) | exact (.tail (.tail (.tail (.tail .head)))) | exact (.tail (.tail (.tail (.tail (.tail .head))))) | exact (.tail (.tail (.tail (.tail (.tail (.tail .head)))))) | exact (.tail (.tail (.tail (.tail (.tail (.tail (.tail .head))))))) | exact (.tail (.tail (.tail (.tail (.tail (.tail (.tail (.tail .head)))))))) | exact (.tail (.tail (.tail (.tail (.tail (.tail (.tail (.tail (.tail .head))))))))) | exact (.tail (.tail (.tail (.tail (.tail (.tail (.tail (.tail (.tail (.tail .head)))))))))) | exact (.tail (.tail (.tail (.tail (.tail (.tail (.tail (.tail (.tail (.tail (.tail .head))))))))))) | exact (.tail (.tail (.tail (.tail (.tail (.tail (.tail (.tail (.tail (.tail (.tail (.tail .head)))))))))))) | exact (.tail (.tail (.tail (.tail (.tail (.tail (.tail (.tail (.tail (.tail (.tail (.tail (.tail .head))))))))))))))))) ?_
          · omega
          intro q hq
          (repeat (with_reducible refine G_seq ?_))
          refine G_region ?_
          refine GL_y rfl rfl (Y_move rfl) ?_
          refine GL_y rfl rfl (Y_lssN (b := 32) rfl rfl) ?_
          refine GL_nil ?_
          (repeat (first | (with_reducible refine R_seq ?_) | (with_reducible refine R_block_normal ?_)))
          (repeat (with_reducible refine G_seq ?_))
          refine G_cond_dec rfl (fun ht43 => ?_) (fun ht43 => ?_)
          · -- yes
            (repeat (with_reducible refine G_seq ?_))
            refine G_skip ?_
            (repeat (first | (with_reducible refine R_seq ?_) | (with_reducible refine R_block_normal ?_)))
            (repeat (with_reducible refine G_seq ?_))
            refine G_block ?_
            have hxq : bs[i.pos + 4 + q]? = some (bAt (bs.drop i.pos) (4 + q)) := by
              rw [bAt_drop, bAt, ← Nat.add_assoc, List.getElem?_eq_getElem (by omega)]; rfl
            (repeat (with_reducible refine G_seq ?_))
            refine G_region ?_
            refine GL_y rfl rfl (Y_move rfl) ?_
            refine GL_y rfl rfl (Y_move rfl) ?_
            refine GL_y rfl rfl (Y_move rfl) ?_
            refine GL_y rfl rfl (Y_addN (b := 4) rfl rfl (by first | omega | decide)) ?_
            refine GL_y rfl rfl (Y_move rfl) ?_
            refine GL_y rfl rfl (Y_addN rfl rfl (by first | omega | decide)) ?_
            refine GL_y rfl rfl (Y_bAt (j := i.pos + 4 + q) hs rfl rfl hxq rfl) ?_
            refine GL_y rfl rfl (Y_bGet hs (by simp) rfl hxq) ?_
            refine GL_y rfl rfl (Y_field fd39_1 rfl) ?_
            refine GL_y rfl rfl (Y_idxA1 ar28 rfl rfl (by first | omega | decide)) ?_
            refine GL_s rfl (S_sc rfl sc5 rfl rfl (by first | exact .head | exact (.tail .head) | exact (.tail (.tail .head)) | exact (.tail (.tail (.tail .head))) | exact (.tail (.tail (.tail (.tail .head)))) | exact (.tail (.tail (.tail (.tail (.tail .head))))) | exact (.tail (.tail (.tail (.tail (.tail (.tail .head)))))) | exact (.tail (.tail (.tail (.tail (.tail (.tail (.tail .head))))))) | exact (.tail (.tail (.tail (.tail (.tail (.tail (.tail (.tail .head)))))))) | exact (.tail (.tail (.tail (.tail (.tail (.tail (.tail (.tail (.tail .head))))))))) | exact (.tail (.tail (.tail (.tail (.tail (.tail (.tail (.tail (.tail (.tail .head)))))))))) | exact (.tail (.tail (.tail (.tail (.tail (.tail (.tail (.tail (.tail (.tail (.tail .head))))))))))) | exact (.tail (.tail (.tail (.tail (.tail (.tail (.tail (.tail (.tail (.tail (.tail (.tail .head)))))))))))) | exact (.tail (.tail (.tail (.tail (.tail (.tail (.tail (.tail (.tail (.tail (.tail (.tail (.tail .head)))))))))))))) (keyP_set _ ht43)) ?_
            refine GL_nil ?_
            (repeat (first | (with_reducible refine R_seq ?_) | (with_reducible refine R_block_normal ?_)))
            (repeat (with_reducible refine G_seq ?_))
            refine G_region ?_
            refine GL_y rfl rfl (Y_move rfl) ?_
            refine GL_y rfl rfl (Y_addN (b := 1) rfl rfl (by first | omega | decide)) ?_
            refine GL_y rfl rfl (Y_assign rfl) ?_
            refine GL_nil ?_
            (repeat (first | (with_reducible refine R_seq ?_) | (with_reducible refine R_block_normal ?_)))
            (repeat (with_reducible refine R_block_normal ?_))
            refine R_fam (q + 1) ?_ (⟨by first | rfl | decide, by first | rfl | decide, by first | rfl | decide, by first | rfl | decide, by first | rfl | decide, by first | rfl | decide, by first | rfl | decide, trivial⟩) (by repeat (first | exact .nil | exact Pick.rfl' _ | exact Pick.skip (Pick.rfl' _) | exact Pick.skip (Pick.skip (Pick.rfl' _)) | (apply Pick.cons; focus (first | exact .head | exact (.tail .head) | exact (.tail (.tail .head)) | exact (.tail (.tail (.tail .head))) | exact (.tail (.tail (.tail (.tail .head)))) | exact (.tail (.tail (.tail (.tail (.tail .head))))) | exact (.tail (.tail (.tail (.tail (.tail (.tail .head)))))) | exact (.tail (.tail (.tail (.tail (.tail (.tail (.tail .head))))))) | exact (.tail (.tail (.tail (.tail (.tail (.tail (.tail (.tail .head)))))))) | exact (.tail (.tail (.tail (.tail (.tail (.tail (.tail (.tail (.tail .head))))))))) | exact (.tail (.tail (.tail (.tail (.tail (.tail (.tail (.tail (.tail (.tail .head)))))))))) | exact (.tail (.tail (.tail (.tail (.tail (.tail (.tail (.tail (.tail (.tail (.tail .head))))))))))) | exact (.tail (.tail (.tail (.tail (.tail (.tail (.tail (.tail (.tail (.tail (.tail (.tail .head)))))))))))) | exact (.tail (.tail (.tail (.tail (.tail (.tail (.tail (.tail (.tail (.tail (.tail (.tail (.tail .head)))))))))))))))))
            exact ⟨by omega, by omega⟩
          · -- no
            (repeat (with_reducible refine G_seq ?_))
            refine G_exit ?_
            (repeat (first | (with_reducible refine R_then_exit ?_) | (with_reducible refine R_block_exit ?_) | (with_reducible refine R_block_other (by decide) ?_)))
            (repeat (first | (with_reducible refine R_seq ?_) | (with_reducible refine R_block_normal ?_)))
            obtain rfl : q = 32 := by omega
            (repeat (with_reducible refine G_seq ?_))
            refine G_region ?_
            refine GL_y rfl rfl (Y_move rfl) ?_
            refine GL_y rfl rfl (Y_loadA (xs := keyL (keyP (bs.drop i.pos) 32)) rfl (by first | exact .head _ | exact .tail _ (.head _) | exact .tail _ (.tail _ (.head _)) | exact .tail _ (.tail _ (.tail _ (.head _))) | exact .tail _ (.tail _ (.tail _ (.tail _ (.head _)))) | exact .tail _ (.tail _ (.tail _ (.tail _ (.tail _ (.head _))))) | exact .tail _ (.tail _ (.tail _ (.tail _ (.tail _ (.tail _ (.head _)))))) | exact .tail _ (.tail _ (.tail _ (.tail _ (.tail _ (.tail _ (.tail _ (.head _))))))) | exact .tail _ (.tail _ (.tail _ (.tail _ (.tail _ (.tail _ (.tail _ (.tail _ (.head _)))))))) | exact .tail _ (.tail _ (.tail _ (.tail _ (.tail _ (.tail _ (.tail _ (.tail _ (.tail _ (.head _))))))))) | exact .tail _ (.tail _ (.tail _ (.tail _ (.tail _ (.tail _ (.tail _ (.tail _ (.tail _ (.tail _ (.head _)))))))))) | exact .tail _ (.tail _ (.tail _ (.tail _ (.tail _ (.tail _ (.tail _ (.tail _ (.tail _ (.tail _ (.tail _ (.head _))))))))))) | exact .tail _ (.tail _ (.tail _ (.tail _ (.tail _ (.tail _ (.tail _ (.tail _ (.tail _ (.tail _ (.tail _ (.tail _ (.head _)))))))))))) | exact .tail _ (.tail _ (.tail _ (.tail _ (.tail _ (.tail _ (.tail _ (.tail _ (.tail _ (.tail _ (.tail _ (.tail _ (.tail _ (.head _)))))))))))))) ag39 (keyL_len _)) ?_
            refine GL_w rfl rfl (W_bs1 (xs := keyL (keyP (bs.drop i.pos) 32)) Try.underlying22 el39 rfl (keyL_len _) (by decide) (by decide) fun b58 => ?_)
            refine GL_w rfl rfl (W_appKey (kd := keyOf (bs.drop i.pos)) hO rfl rfl rfl (by omega) (.skip (.skip (Pick.rfl' _))) (by first | exact .head _ | exact .tail _ (.head _) | exact .tail _ (.tail _ (.head _)) | exact .tail _ (.tail _ (.tail _ (.head _))) | exact .tail _ (.tail _ (.tail _ (.tail _ (.head _)))) | exact .tail _ (.tail _ (.tail _ (.tail _ (.tail _ (.head _))))) | exact .tail _ (.tail _ (.tail _ (.tail _ (.tail _ (.tail _ (.head _)))))) | exact .tail _ (.tail _ (.tail _ (.tail _ (.tail _ (.tail _ (.tail _ (.head _))))))) | exact .tail _ (.tail _ (.tail _ (.tail _ (.tail _ (.tail _ (.tail _ (.tail _ (.head _)))))))) | exact .tail _ (.tail _ (.tail _ (.tail _ (.tail _ (.tail _ (.tail _ (.tail _ (.tail _ (.head _))))))))) | exact .tail _ (.tail _ (.tail _ (.tail _ (.tail _ (.tail _ (.tail _ (.tail _ (.tail _ (.tail _ (.head _)))))))))) | exact .tail _ (.tail _ (.tail _ (.tail _ (.tail _ (.tail _ (.tail _ (.tail _ (.tail _ (.tail _ (.tail _ (.head _))))))))))) | exact .tail _ (.tail _ (.tail _ (.tail _ (.tail _ (.tail _ (.tail _ (.tail _ (.tail _ (.tail _ (.tail _ (.tail _ (.head _)))))))))))) | exact .tail _ (.tail _ (.tail _ (.tail _ (.tail _ (.tail _ (.tail _ (.tail _ (.tail _ (.tail _ (.tail _ (.tail _ (.tail _ (.head _)))))))))))))) fun b59 c59 => ?_)
            refine GL_y rfl rfl (Y_assign rfl) ?_
            refine GL_nil ?_
            (repeat (first | (with_reducible refine R_seq ?_) | (with_reducible refine R_block_normal ?_)))
            (repeat (with_reducible refine G_seq ?_))
            refine G_region ?_
            refine GL_y rfl rfl (Y_move rfl) ?_
            refine GL_y rfl rfl (Y_addN (b := 37) rfl rfl (by first | omega | decide)) ?_
            refine GL_y rfl rfl (Y_assign rfl) ?_
            refine GL_nil ?_
            (repeat (first | (with_reducible refine R_seq ?_) | (with_reducible refine R_block_normal ?_)))
            (repeat (with_reducible refine R_block_normal ?_))
            refine R_fam ⟨some ⟨b59, 0, none⟩, c59, [⟨b59, 39, c59 * 34, ringL (i.ring ++ [keyOf (bs.drop i.pos)]), (0, 0)⟩], i.ring ++ [keyOf (bs.drop i.pos)], i.pos + 37⟩ ?_ (⟨by first | rfl | decide, by first | rfl | decide, by first | rfl | decide, by first | rfl | decide, by first | rfl | decide, trivial⟩) (by repeat (first | exact .nil | exact Pick.rfl' _ | exact Pick.skip (Pick.rfl' _) | exact Pick.skip (Pick.skip (Pick.rfl' _)) | (apply Pick.cons; focus (first | exact .head | exact (.tail .head) | exact (.tail (.tail .head)) | exact (.tail (.tail (.tail .head))) | exact (.tail (.tail (.tail (.tail .head)))) | exact (.tail (.tail (.tail (.tail (.tail .head))))) | exact (.tail (.tail (.tail (.tail (.tail (.tail .head)))))) | exact (.tail (.tail (.tail (.tail (.tail (.tail (.tail .head))))))) | exact (.tail (.tail (.tail (.tail (.tail (.tail (.tail (.tail .head)))))))) | exact (.tail (.tail (.tail (.tail (.tail (.tail (.tail (.tail (.tail .head))))))))) | exact (.tail (.tail (.tail (.tail (.tail (.tail (.tail (.tail (.tail (.tail .head)))))))))) | exact (.tail (.tail (.tail (.tail (.tail (.tail (.tail (.tail (.tail (.tail (.tail .head))))))))))) | exact (.tail (.tail (.tail (.tail (.tail (.tail (.tail (.tail (.tail (.tail (.tail (.tail .head)))))))))))) | exact (.tail (.tail (.tail (.tail (.tail (.tail (.tail (.tail (.tail (.tail (.tail (.tail (.tail .head)))))))))))))))))
            refine ⟨⟨by simp only [List.length_append, List.length_singleton]; omega, by simp only; omega, .inr ⟨b59, rfl, rfl⟩, ?_⟩, by simp only; omega⟩
            have h := keysOf_app hk hr8 (by rw [List.length_drop]; omega)
            rw [List.drop_drop] at h
            exact h
      · -- no
        (repeat (with_reducible refine G_seq ?_))
        refine G_exit ?_
        (repeat (first | (with_reducible refine R_then_exit ?_) | (with_reducible refine R_block_exit ?_) | (with_reducible refine R_block_other (by decide) ?_)))
        (repeat (first | (with_reducible refine R_seq ?_) | (with_reducible refine R_block_normal ?_)))
        have hks : keysOf 8 (bs.drop 8) = i.ring := keysOf_all hk (by omega)
        rw [hks] at hm
        rw [hks] at hb
        (repeat (with_reducible refine G_seq ?_))
        refine G_draw [] 11 rfl (by kernel_rfl) ?_
        refine GA_y 0 rfl (by kernel_rfl) (by kernel_rfl) (by kernel_rfl) (fun _ _ _ h => h) rfl rfl rfl (Y_move rfl) ?_
        refine GA_one 1 (by kernel_rfl) ?_
        refine GO_call rfl rfl rfl rfl rfl rfl Try.call13 (fun w hw => refMay_is (hO.sl hw) (by omega) hm) ?_
        rintro _ _ ⟨rfl, rfl⟩
        refine GA_y 2 rfl (by kernel_rfl) (by kernel_rfl) (by kernel_rfl) (fun _ _ _ h => h) rfl rfl rfl (Y_not rfl) ?_
        refine GA_y 3 rfl (by kernel_rfl) (by kernel_rfl) (by kernel_rfl) (fun _ _ _ h => h) rfl rfl rfl (Y_move rfl) ?_
        refine GA_y 4 rfl (by kernel_rfl) (by kernel_rfl) (by kernel_rfl) (fun _ _ _ h => h) rfl rfl rfl (Y_move rfl) ?_
        refine GA_y 7 rfl (by kernel_rfl) (by kernel_rfl) (by kernel_rfl) (fun _ _ _ h => h) rfl rfl rfl (Y_move rfl) ?_
        refine GA_y 8 rfl (by kernel_rfl) (by kernel_rfl) (by kernel_rfl) (fun _ _ _ h => h) rfl rfl rfl (Y_str (bs := bs) Try.underlying24 Try.underlying5 Try.underlying9 rfl rfl (fun w s => hs.keep s (by simp))) ?_
        refine GA_one 5 (by kernel_rfl) ?_
        refine GO_call rfl rfl rfl rfl rfl rfl Try.call15 (fun w hw => refBytes_is (hO.sl hw) (by omega) hm) ?_
        rintro _ _ ⟨b65, c65, _, rfl, rfl⟩
        refine GA_l 6 rfl (by kernel_rfl) (by kernel_rfl) (by kernel_rfl) (fun _ _ _ h => h) rfl rfl rfl rfl (Y_str (bs := bytesD i.ring) Try.underlying24 Try.underlying5 Try.underlying9 rfl rfl (fun w s => SlAt.mk' (s.cells (k := ⟨b65, 5, c65 * 1, B (bytesD i.ring), (0, 0)⟩) (by first | exact .head _ | exact .tail _ (.head _) | exact .tail _ (.tail _ (.head _)) | exact .tail _ (.tail _ (.tail _ (.head _))) | exact .tail _ (.tail _ (.tail _ (.tail _ (.head _)))) | exact .tail _ (.tail _ (.tail _ (.tail _ (.tail _ (.head _))))) | exact .tail _ (.tail _ (.tail _ (.tail _ (.tail _ (.tail _ (.head _)))))) | exact .tail _ (.tail _ (.tail _ (.tail _ (.tail _ (.tail _ (.tail _ (.head _))))))) | exact .tail _ (.tail _ (.tail _ (.tail _ (.tail _ (.tail _ (.tail _ (.tail _ (.head _)))))))) | exact .tail _ (.tail _ (.tail _ (.tail _ (.tail _ (.tail _ (.tail _ (.tail _ (.tail _ (.head _))))))))) | exact .tail _ (.tail _ (.tail _ (.tail _ (.tail _ (.tail _ (.tail _ (.tail _ (.tail _ (.tail _ (.head _)))))))))) | exact .tail _ (.tail _ (.tail _ (.tail _ (.tail _ (.tail _ (.tail _ (.tail _ (.tail _ (.tail _ (.tail _ (.head _))))))))))) | exact .tail _ (.tail _ (.tail _ (.tail _ (.tail _ (.tail _ (.tail _ (.tail _ (.tail _ (.tail _ (.tail _ (.tail _ (.head _)))))))))))) | exact .tail _ (.tail _ (.tail _ (.tail _ (.tail _ (.tail _ (.tail _ (.tail _ (.tail _ (.tail _ (.tail _ (.tail _ (.tail _ (.head _))))))))))))))))) ?_
        refine GA_y 9 rfl (by kernel_rfl) (by kernel_rfl) (by kernel_rfl) (fun _ _ _ h => h) rfl rfl rfl (Y_neqstr rfl rfl) ?_
        refine GA_y 10 rfl (by kernel_rfl) (by kernel_rfl) (by kernel_rfl) (fun _ _ _ h => h) rfl rfl rfl (Y_pick rfl rfl rfl rfl) ?_
        refine GA_done (by kernel_rfl) ?_
        (repeat (first | (with_reducible refine R_seq ?_) | (with_reducible refine R_block_normal ?_)))
        (repeat (with_reducible refine G_seq ?_))
        refine G_cond_t rfl (by simp [hb]) ?_
        (repeat (with_reducible refine G_seq ?_))
        refine G_region ?_
        refine GL_y rfl rfl (Y_assign rfl) ?_
        refine GL_y rfl rfl (Y_assign rfl) ?_
        refine GL_nil ?_
        (repeat (first | (with_reducible refine R_seq ?_) | (with_reducible refine R_block_normal ?_)))
        (repeat (with_reducible refine G_seq ?_))
        refine G_ret ?_
        (repeat (first | (with_reducible refine R_then_ret ?_) | (with_reducible refine R_block_ret ?_)))
        refine R_ret (.tmp rfl (.tmp rfl .nil)) [] .nil ⟨rfl, rfl⟩
set_option maxHeartbeats 4000000 in
theorem refParse_ok0 {ao : Option Addr} {c : Nat} {bs : List UInt8} {w : World} (hs : SlAt w ao (B bs)) (hc : bs.length ≤ c) (hl : bs.length ≤ 1000) (h8 : 8 ≤ bs.length) (h2 : (bs.length - 8) % 37 = 0) (h3 : bs.length ≤ 304) (hm : mayB (keysOf 8 (bs.drop 8)) = true) (hb : bytesD (keysOf 8 (bs.drop 8)) = bs) : FnAt Try.prog 18 [.slice ao bs.length c] [] w (Ret fun v N => ∃ ao' c', v = .tuple #[.slice ao' (keysOf 8 (bs.drop 8)).length c', .bool true] ∧ Own N ao' c' (keysOf 8 (bs.drop 8))) := by
  refine FnAt.intro Try.func18 rfl Try.ntmps18 rfl _ rfl ?_
  (repeat (with_reducible refine G_seq ?_))
  refine G_region ?_
  refine GL_y rfl rfl (Y_assign rfl) ?_
  refine GL_y rfl rfl (Y_assign rfl) ?_
  refine GL_nil ?_
  (repeat (first | (with_reducible refine R_seq ?_) | (with_reducible refine R_block_normal ?_)))
  (repeat (with_reducible refine G_seq ?_))
  refine G_region ?_
  refine GL_y rfl rfl (Y_move rfl) ?_
  refine GL_y rfl rfl (Y_len sl24 rfl) ?_
  refine GL_y rfl rfl (Y_lssN (b := 8) rfl rfl) ?_
  refine GL_y rfl rfl (Y_move rfl) ?_
  refine GL_bool 11 rfl (fun g11 => ?_) (fun g11 => ?_)
  · -- g11 True
    exact absurd (of_decide_eq_true g11) (by omega)
  · -- g11 False
    have g11' := of_decide_eq_false g11
    refine GL_y rfl rfl (Y_move rfl) ?_
    refine GL_y rfl rfl (Y_len sl24 rfl) ?_
    refine GL_y rfl rfl (Y_subN (b := 8) rfl rfl (by first | omega | decide) (by first | omega | decide)) ?_
    refine GL_y rfl rfl (Y_remN (b := 37) rfl rfl (by first | omega | decide)) ?_
    refine GL_y rfl rfl (Y_neqN (b := 0) rfl rfl) ?_
    refine GL_y rfl rfl (Y_pick rfl rfl rfl rfl) ?_
    refine GL_y rfl rfl (Y_move rfl) ?_
    refine GL_bool 18 rfl (fun g18 => ?_) (fun g18 => ?_)
    · -- g18 True
      exact absurd (of_decide_eq_true g18) (by simp only [ne_eq, Decidable.not_not]; exact h2)
    · -- g18 False
      refine GL_y rfl rfl (Y_move rfl) ?_
      refine GL_y rfl rfl (Y_len sl24 rfl) ?_
      refine GL_y rfl rfl (Y_gtrN (b := 304) rfl rfl) ?_
      refine GL_y rfl rfl (Y_pick rfl rfl rfl rfl) ?_
      refine GL_nil ?_
      (repeat (first | (with_reducible refine R_seq ?_) | (with_reducible refine R_block_normal ?_)))
      (repeat (with_reducible refine G_seq ?_))
      refine G_cond_f rfl (by simp; omega) ?_
      (repeat (with_reducible refine G_seq ?_))
      refine G_skip ?_
      (repeat (first | (with_reducible refine R_seq ?_) | (with_reducible refine R_block_normal ?_)))
      (repeat (with_reducible refine G_seq ?_))
      refine G_region ?_
      refine GL_y rfl rfl (Y_assign rfl) ?_
      refine GL_nil ?_
      (repeat (first | (with_reducible refine R_seq ?_) | (with_reducible refine R_block_normal ?_)))
      (repeat (with_reducible refine G_seq ?_))
      refine G_region ?_
      refine GL_y rfl rfl (Y_assign rfl) ?_
      refine GL_nil ?_
      (repeat (first | (with_reducible refine R_seq ?_) | (with_reducible refine R_block_normal ?_)))
      (repeat (with_reducible refine G_seq ?_))
      refine G_block ?_
      (repeat (with_reducible refine G_seq ?_))
      refine G_loop (ι := RPI) (fun i => bs.length - i.pos) (fun i => i.pos = 8 + 37 * i.ring.length ∧ i.pos ≤ bs.length ∧ Own i.N i.ao i.c i.ring ∧ keysOf 8 (bs.drop 8) = i.ring ++ keysOf (8 - i.ring.length) (bs.drop i.pos)) (fun i => [(0, .slice ao bs.length c), (2, .slice none 0 0), (3, .bool false), (4, .slice i.ao i.ring.length i.c), (5, .int .i64 (i.pos : Int))]) (fun i => i.N) ⟨none, 0, [], [], 8⟩ ?_ (⟨by first | rfl | decide, by first | rfl | decide, by first | rfl | decide, by first | rfl | decide, by first | rfl | decide, trivial⟩) (by repeat (first | exact .nil | exact Pick.rfl' _ | exact Pick.skip (Pick.rfl' _) | exact Pick.skip (Pick.skip (Pick.rfl' _)) | (apply Pick.cons; focus (first | exact .head | exact (.tail .head) | exact (.tail (.tail .head)) | exact (.tail (.tail (.tail .head))) | exact (.tail (.tail (.tail (.tail .head)))) | exact (.tail (.tail (.tail (.tail (.tail .head))))) | exact (.tail (.tail (.tail (.tail (.tail (.tail .head)))))) | exact (.tail (.tail (.tail (.tail (.tail (.tail (.tail .head))))))) | exact (.tail (.tail (.tail (.tail (.tail (.tail (.tail (.tail .head)))))))) | exact (.tail (.tail (.tail (.tail (.tail (.tail (.tail (.tail (.tail .head))))))))) | exact (.tail (.tail (.tail (.tail (.tail (.tail (.tail (.tail (.tail (.tail .head)))))))))) | exact (.tail (.tail (.tail (.tail (.tail (.tail (.tail (.tail (.tail (.tail (.tail .head))))))))))) | exact (.tail (.tail (.tail (.tail (.tail (.tail (.tail (.tail (.tail (.tail (.tail (.tail .head)))))))))))) | exact (.tail (.tail (.tail (.tail (.tail (.tail (.tail (.tail (.tail (.tail (.tail (.tail (.tail .head))))))))))))))))) ?_
      · exact ⟨rfl, h8, .inl ⟨rfl, rfl, rfl, rfl⟩, by simp⟩
      intro i ⟨hpos, hple, hO, hk⟩
      (repeat (with_reducible refine G_seq ?_))
      refine G_region ?_
      refine GL_y rfl rfl (Y_move rfl) ?_
      refine GL_y rfl rfl (Y_move rfl) ?_
      refine GL_y rfl rfl (Y_len sl24 rfl) ?_
      refine GL_y rfl rfl (Y_lssN rfl rfl) ?_
      refine GL_nil ?_
      (repeat (first | (with_reducible refine R_seq ?_) | (with_reducible refine R_block_normal ?_)))
      (repeat (with_reducible refine G_seq ?_))
      refine G_cond_dec rfl (fun ht26 => ?_) (fun ht26 => ?_)
      · -- yes
        (repeat (with_reducible refine G_seq ?_))
        refine G_skip ?_
        (repeat (first | (with_reducible refine R_seq ?_) | (with_reducible refine R_block_normal ?_)))
        (repeat (with_reducible refine G_seq ?_))
        refine G_block ?_
        have h37 : i.pos + 37 ≤ bs.length := by omega
        have hr8 : i.ring.length < 8 := by omega
        have hx0 : ((bs.drop i.pos).take 4)[0]? = some (bAt (bs.drop i.pos) 0) := by
          rw [List.getElem?_take, if_pos (by decide), bAt, List.getElem?_eq_getElem (by rw [List.length_drop]; omega)]; rfl
        have hx1 : ((bs.drop i.pos).take 4)[1]? = some (bAt (bs.drop i.pos) 1) := by
          rw [List.getElem?_take, if_pos (by decide), bAt, List.getElem?_eq_getElem (by rw [List.length_drop]; omega)]; rfl
        have hx2 : ((bs.drop i.pos).take 4)[2]? = some (bAt (bs.drop i.pos) 2) := by
          rw [List.getElem?_take, if_pos (by decide), bAt, List.getElem?_eq_getElem (by rw [List.length_drop]; omega)]; rfl
        have hx3 : ((bs.drop i.pos).take 4)[3]? = some (bAt (bs.drop i.pos) 3) := by
          rw [List.getElem?_take, if_pos (by decide), bAt, List.getElem?_eq_getElem (by rw [List.length_drop]; omega)]; rfl
        have hx36 : bs[i.pos + 36]? = some (bAt (bs.drop i.pos) 36) := by
          rw [bAt_drop, bAt, List.getElem?_eq_getElem (by omega)]; rfl
        have hsl : SlAt w (subA ao c i.pos 1) (B ((bs.drop i.pos).take 4)) := by
          have h := (hs.drop c i.pos 1 (by rw [len_B]; omega)).take 4
          have e : ((B bs).drop (i.pos * 1)).take 4 = B ((bs.drop i.pos).take 4) := by simp [B, List.map_drop, List.map_take]
          rw [e] at h
          exact h
        (repeat (with_reducible refine G_seq ?_))
        refine G_draw [14] 15 rfl (by kernel_rfl) ?_
        refine GA_y 0 rfl (by kernel_rfl) (by kernel_rfl) (by kernel_rfl) (fun _ _ _ h => h) rfl rfl rfl (Y_move rfl) ?_
        refine GA_y 1 rfl (by kernel_rfl) (by kernel_rfl) (by kernel_rfl) (fun _ _ _ h => h) rfl rfl rfl (Y_move rfl) ?_
        refine GA_y 2 rfl (by kernel_rfl) (by kernel_rfl) (by kernel_rfl) (fun _ _ _ h => h) rfl rfl rfl (Y_move rfl) ?_
        refine GA_y 3 rfl (by kernel_rfl) (by kernel_rfl) (by kernel_rfl) (fun _ _ _ h => h) rfl rfl rfl (Y_addN (b := 4) rfl rfl (by first | omega | decide)) ?_
        refine GA_y 4 rfl (by kernel_rfl) (by kernel_rfl) (by kernel_rfl) (fun _ _ _ h => h) rfl rfl rfl (Y_slS (vl := some _) (vh := some _) (kl := i.pos) (kh := i.pos + 4) sl24 rfl rfl rfl ⟨_, rfl⟩ ⟨_, rfl⟩ (by omega) (by omega) hc) ?_
        refine GA_y 6 rfl (by kernel_rfl) (by kernel_rfl) (by kernel_rfl) (fun _ _ _ h => h) rfl rfl rfl (Y_move rfl) ?_
        refine GA_y 7 rfl (by kernel_rfl) (by kernel_rfl) (by kernel_rfl) (fun _ _ _ h => h) rfl rfl rfl (Y_move rfl) ?_
        refine GA_y 8 rfl (by kernel_rfl) (by kernel_rfl) (by kernel_rfl) (fun _ _ _ h => h) rfl rfl rfl (Y_addN (b := 36) rfl rfl (by first | omega | decide)) ?_
        refine GA_y 9 rfl (by kernel_rfl) (by kernel_rfl) (by kernel_rfl) (fun _ _ _ h => h) rfl rfl rfl (Y_bAt (j := i.pos + 36) hs rfl rfl hx36 rfl) ?_
        refine GA_y 10 rfl (by kernel_rfl) (by kernel_rfl) (by kernel_rfl) (fun _ _ _ h => h) rfl rfl rfl (Y_bGet hs (by simp) rfl hx36) ?_
        refine GA_y 11 rfl (by kernel_rfl) (by kernel_rfl) (by kernel_rfl) (fun _ _ _ h => h) rfl rfl rfl ((Y_iop rfl rfl rfl).as (.bool (decide ((bAt (bs.drop i.pos) 36) = 1))) (congrArg Value.bool (decide_eq_decide.2 ⟨fun h => UInt8.toNat_inj.1 (by have h' : ((bAt (bs.drop i.pos) 36).toNat : Int) = 1 := h; show (bAt (bs.drop i.pos) 36).toNat = 1; omega), fun h => by rw [h]; rfl⟩))) ?_
        refine GA_all [5, 13] (by kernel_rfl) rfl ⟨?_, ?_, trivial⟩
        · -- 5 comes up
          refine GO_call rfl rfl rfl rfl rfl rfl Try.call25 (fun w hw => number_is (hsl.keep hw (by simp)) (by rw [List.length_take, List.length_drop]; omega) hx0 hx1 hx2 hx3) ?_
          rintro _ _ ⟨rfl, rfl⟩
          refine GA_y 12 rfl (by kernel_rfl) (by kernel_rfl) (by kernel_rfl) (fun _ _ _ h => h) rfl rfl rfl (Y_build (v := .agg (keyL (keyP (bs.drop i.pos) 0)).toArray) (vs := [(0, .int .i64 (keyP (bs.drop i.pos) 0).num), (2, .bool (keyP (bs.drop i.pos) 0).rev)]) rfl (fun w => build39' (keyP (bs.drop i.pos) 0) (partB_zero _) w)) ?_
          refine GA_one 13 (by kernel_rfl) ?_
          refine GO_w rfl rfl rfl rfl (W_alloc zr39 fun b6 => ⟨⟨_, by repeat (first | exact .nil | exact Pick.rfl' _ | exact Pick.skip (Pick.rfl' _) | exact Pick.skip (Pick.skip (Pick.rfl' _)) | (apply Pick.cons; focus (first | exact .head | exact (.tail .head) | exact (.tail (.tail .head)) | exact (.tail (.tail (.tail .head))) | exact (.tail (.tail (.tail (.tail .head)))) | exact (.tail (.tail (.tail (.tail (.tail .head))))) | exact (.tail (.tail (.tail (.tail (.tail (.tail .head)))))) | exact (.tail (.tail (.tail (.tail (.tail (.tail (.tail .head))))))) | exact (.tail (.tail (.tail (.tail (.tail (.tail (.tail (.tail .head)))))))) | exact (.tail (.tail (.tail (.tail (.tail (.tail (.tail (.tail (.tail .head))))))))) | exact (.tail (.tail (.tail (.tail (.tail (.tail (.tail (.tail (.tail (.tail .head)))))))))) | exact (.tail (.tail (.tail (.tail (.tail (.tail (.tail (.tail (.tail (.tail (.tail .head))))))))))) | exact (.tail (.tail (.tail (.tail (.tail (.tail (.tail (.tail (.tail (.tail (.tail (.tail .head)))))))))))) | exact (.tail (.tail (.tail (.tail (.tail (.tail (.tail (.tail (.tail (.tail (.tail (.tail (.tail .head))))))))))))))))⟩, ?_⟩)
          refine GA_one 14 (by kernel_rfl) ?_
          refine GO_s rfl rfl rfl (S_all rfl rfl ag39 (keyL_len _) (keyL_all _) (by first | exact .head | exact (.tail .head) | exact (.tail (.tail .head)) | exact (.tail (.tail (.tail .head))) | exact (.tail (.tail (.tail (.tail .head)))) | exact (.tail (.tail (.tail (.tail (.tail .head))))) | exact (.tail (.tail (.tail (.tail (.tail (.tail .head)))))) | exact (.tail (.tail (.tail (.tail (.tail (.tail (.tail .head))))))) | exact (.tail (.tail (.tail (.tail (.tail (.tail (.tail (.tail .head)))))))) | exact (.tail (.tail (.tail (.tail (.tail (.tail (.tail (.tail (.tail .head))))))))) | exact (.tail (.tail (.tail (.tail (.tail (.tail (.tail (.tail (.tail (.tail .head)))))))))) | exact (.tail (.tail (.tail (.tail (.tail (.tail (.tail (.tail (.tail (.tail (.tail .head))))))))))) | exact (.tail (.tail (.tail (.tail (.tail (.tail (.tail (.tail (.tail (.tail (.tail (.tail .head)))))))))))) | exact (.tail (.tail (.tail (.tail (.tail (.tail (.tail (.tail (.tail (.tail (.tail (.tail (.tail .head)))))))))))))) (by rfl)) ?_
          refine GA_done (by kernel_rfl) ?_
          (repeat (first | (with_reducible refine R_seq ?_) | (with_reducible refine R_block_normal ?_)))
          (repeat (with_reducible refine G_seq ?_))
          refine G_region ?_
          refine GL_y rfl rfl (Y_assign rfl) ?_
          refine GL_nil ?_
          (repeat (first | (with_reducible refine R_seq ?_) | (with_reducible refine R_block_normal ?_)))
          (repeat (with_reducible refine G_seq ?_))
          refine G_block ?_
          (repeat (with_reducible refine G_seq ?_))
          refine G_loop (ι := Nat) (fun q => 32 - q) (fun q => q ≤ 32) (fun q => [(0, .slice ao bs.length c), (2, .slice none 0 0), (3, .bool false), (4, .slice i.ao i.ring.length i.c), (5, .int .i64 (i.pos : Int)), (6, .pointer (some ⟨b6, 0, none⟩)), (7, .int .i64 (q : Int))]) (fun q => ⟨b6, 39, 34, keyL (keyP (bs.drop i.pos) q), (0, 0)⟩ :: i.N) 0 ?_ (⟨by first | rfl | decide, by first | rfl | decide, by first | rfl | decide, by first | rfl | decide, by first | rfl | decide, by first | rfl | decide, by first | rfl | decide, trivial⟩) (by repeat (first | exact .nil | exact Pick.rfl' _ | exact Pick.skip (Pick.rfl' _) | exact Pick.skip (Pick.skip (Pick.rfl' _)) | (apply Pick.cons; focus (first | exact .head | exact (.tail .head) | exact (.tail (.tail .head)) | exact (.tail (.tail (.tail .head))) | exact (.tail (.tail (.tail (.tail .head)))) | exact (.tail (.tail (.tail (.tail (.tail .head))))) | exact (.tail (.tail (.tail (.tail (.tail (.tail .head)))))) | exact (.tail (.tail (.tail (.tail (.tail (.tail (.tail .head))))))) | exact (.tail (.tail (.tail (.tail (.tail (.tail (.tail (.tail .head)))))))) | exact (.tail (.tail (.tail (.tail (.tail (.tail (.tail (.tail (.tail .head))))))))) | exact (.tail (.tail (.tail (.tail (.tail (.tail (.tail (.tail (.tail (.tail .head)))))))))) | exact (.tail (.tail (.tail (.tail (.tail (.tail (.tail (.tail (.tail (.tail (.tail .head))))))))))) | exact (.tail (.tail (.tail (.tail (.tail (.tail (.tail (.tail (.tail (.tail (.tail (.tail .head)))))))))))) | exact (.tail (.tail (.tail (.tail (.tail (.tail (.tail (.tail (.tail (.tail (.tail (.tail (.tail .head))))))))))))))))) ?_
          · omega
          intro q hq
          (repeat (with_reducible refine G_seq ?_))
          refine G_region ?_
          refine GL_y rfl rfl (Y_move rfl) ?_
          refine GL_y rfl rfl (Y_lssN (b := 32) rfl rfl) ?_
          refine GL_nil ?_
          (repeat (first | (with_reducible refine R_seq ?_) | (with_reducible refine R_block_normal ?_)))
          (repeat (with_reducible refine G_seq ?_))
          refine G_cond_dec rfl (fun ht43 => ?_) (fun ht43 => ?_)
          · -- yes
            (repeat (with_reducible refine G_seq ?_))
            refine G_skip ?_
            (repeat (first | (with_reducible refine R_seq ?_) | (with_reducible refine R_block_normal ?_)))
            (repeat (with_reducible refine G_seq ?_))
            refine G_block ?_
            have hxq : bs[i.pos + 4 + q]? = some (bAt (bs.drop i.pos) (4 + q)) := by
              rw [bAt_drop, bAt, ← Nat.add_assoc, List.getElem?_eq_getElem (by omega)]; rfl
            (repeat (with_reducible refine G_seq ?_))
            refine G_region ?_
            refine GL_y rfl rfl (Y_move rfl) ?_
            refine GL_y rfl rfl (Y_move rfl) ?_
            refine GL_y rfl rfl (Y_move rfl) ?_
            refine GL_y rfl rfl (Y_addN (b := 4) rfl rfl (by first | omega | decide)) ?_
            refine GL_y rfl rfl (Y_move rfl) ?_
            refine GL_y rfl rfl (Y_addN rfl rfl (by first | omega | decide)) ?_
            refine GL_y rfl rfl (Y_bAt (j := i.pos + 4 + q) hs rfl rfl hxq rfl) ?_
            refine GL_y rfl rfl (Y_bGet hs (by simp) rfl hxq) ?_
            refine GL_y rfl rfl (Y_field fd39_1 rfl) ?_
            refine GL_y rfl rfl (Y_idxA1 ar28 rfl rfl (by first | omega | decide)) ?_
            refine GL_s rfl (S_sc rfl sc5 rfl rfl (by first | exact .head | exact (.tail .head) | exact (.tail (.tail .head)) | exact (.tail (.tail (.tail .head))) | exact (.tail (.tail (.tail (.tail .head)))) | exact (.tail (.tail (.tail (.tail (.tail .head))))) | exact (.tail (.tail (.tail (.tail (.tail (.tail .head)))))) | exact (.tail (.tail (.tail (.tail (.tail (.tail (.tail .head))))))) | exact (.tail (.tail (.tail (.tail (.tail (.tail (.tail (.tail .head)))))))) | exact (.tail (.tail (.tail (.tail (.tail (.tail (.tail (.tail (.tail .head))))))))) | exact (.tail (.tail (.tail (.tail (.tail (.tail (.tail (.tail (.tail (.tail .head)))))))))) | exact (.tail (.tail (.tail (.tail (.tail (.tail (.tail (.tail (.tail (.tail (.tail .head))))))))))) | exact (.tail (.tail (.tail (.tail (.tail (.tail (.tail (.tail (.tail (.tail (.tail (.tail .head)))))))))))) | exact (.tail (.tail (.tail (.tail (.tail (.tail (.tail (.tail (.tail (.tail (.tail (.tail (.tail .head)))))))))))))) (keyP_set _ ht43)) ?_
            refine GL_nil ?_
            (repeat (first | (with_reducible refine R_seq ?_) | (with_reducible refine R_block_normal ?_)))
            (repeat (with_reducible refine G_seq ?_))
            refine G_region ?_
            refine GL_y rfl rfl (Y_move rfl) ?_
            refine GL_y rfl rfl (Y_addN (b := 1) rfl rfl (by first | omega | decide)) ?_
            refine GL_y rfl rfl (Y_assign rfl) ?_
            refine GL_nil ?_
            (repeat (first | (with_reducible refine R_seq ?_) | (with_reducible refine R_block_normal ?_)))
            (repeat (with_reducible refine R_block_normal ?_))
            refine R_fam (q + 1) ?_ (⟨by first | rfl | decide, by first | rfl | decide, by first | rfl | decide, by first | rfl | decide, by first | rfl | decide, by first | rfl | decide, by first | rfl | decide, trivial⟩) (by repeat (first | exact .nil | exact Pick.rfl' _ | exact Pick.skip (Pick.rfl' _) | exact Pick.skip (Pick.skip (Pick.rfl' _)) | (apply Pick.cons; focus (first | exact .head | exact (.tail .head) | exact (.tail (.tail .head)) | exact (.tail (.tail (.tail .head))) | exact (.tail (.tail (.tail (.tail .head)))) | exact (.tail (.tail (.tail (.tail (.tail .head))))) | exact (.tail (.tail (.tail (.tail (.tail (.tail .head)))))) | exact (.tail (.tail (.tail (.tail (.tail (.tail (.tail .head))))))) | exact (.tail (.tail (.tail (.tail (.tail (.tail (.tail (.tail .head)))))))) | exact (.tail (.tail (.tail (.tail (.tail (.tail (.tail (.tail (.tail .head))))))))) | exact (.tail (.tail (.tail (.tail (.tail (.tail (.tail (.tail (.tail (.tail .head)))))))))) | exact (.tail (.tail (.tail (.tail (.tail (.tail (.tail (.tail (.tail (.tail (.tail .head))))))))))) | exact (.tail (.tail (.tail (.tail (.tail (.tail (.tail (.tail (.tail (.tail (.tail (.tail .head)))))))))))) | exact (.tail (.tail (.tail (.tail (.tail (.tail (.tail (.tail (.tail (.tail (.tail (.tail (.tail .head)))))))))))))))))
            exact ⟨by omega, by omega⟩
          · -- no
            (repeat (with_reducible refine G_seq ?_))
            refine G_exit ?_
            (repeat (first | (with_reducible refine R_then_exit ?_) | (with_reducible refine R_block_exit ?_) | (with_reducible refine R_block_other (by decide) ?_)))
            (repeat (first | (with_reducible refine R_seq ?_) | (with_reducible refine R_block_normal ?_)))
            obtain rfl : q = 32 := by omega
            (repeat (with_reducible refine G_seq ?_))
            refine G_region ?_
            refine GL_y rfl rfl (Y_move rfl) ?_
            refine GL_y rfl rfl (Y_loadA (xs := keyL (keyP (bs.drop i.pos) 32)) rfl (by first | exact .head _ | exact .tail _ (.head _) | exact .tail _ (.tail _ (.head _)) | exact .tail _ (.tail _ (.tail _ (.head _))) | exact .tail _ (.tail _ (.tail _ (.tail _ (.head _)))) | exact .tail _ (.tail _ (.tail _ (.tail _ (.tail _ (.head _))))) | exact .tail _ (.tail _ (.tail _ (.tail _ (.tail _ (.tail _ (.head _)))))) | exact .tail _ (.tail _ (.tail _ (.tail _ (.tail _ (.tail _ (.tail _ (.head _))))))) | exact .tail _ (.tail _ (.tail _ (.tail _ (.tail _ (.tail _ (.tail _ (.tail _ (.head _)))))))) | exact .tail _ (.tail _ (.tail _ (.tail _ (.tail _ (.tail _ (.tail _ (.tail _ (.tail _ (.head _))))))))) | exact .tail _ (.tail _ (.tail _ (.tail _ (.tail _ (.tail _ (.tail _ (.tail _ (.tail _ (.tail _ (.head _)))))))))) | exact .tail _ (.tail _ (.tail _ (.tail _ (.tail _ (.tail _ (.tail _ (.tail _ (.tail _ (.tail _ (.tail _ (.head _))))))))))) | exact .tail _ (.tail _ (.tail _ (.tail _ (.tail _ (.tail _ (.tail _ (.tail _ (.tail _ (.tail _ (.tail _ (.tail _ (.head _)))))))))))) | exact .tail _ (.tail _ (.tail _ (.tail _ (.tail _ (.tail _ (.tail _ (.tail _ (.tail _ (.tail _ (.tail _ (.tail _ (.tail _ (.head _)))))))))))))) ag39 (keyL_len _)) ?_
            refine GL_w rfl rfl (W_bs1 (xs := keyL (keyP (bs.drop i.pos) 32)) Try.underlying22 el39 rfl (keyL_len _) (by decide) (by decide) fun b58 => ?_)
            refine GL_w rfl rfl (W_appKey (kd := keyOf (bs.drop i.pos)) hO rfl rfl rfl (by omega) (.skip (.skip (Pick.rfl' _))) (by first | exact .head _ | exact .tail _ (.head _) | exact .tail _ (.tail _ (.head _)) | exact .tail _ (.tail _ (.tail _ (.head _))) | exact .tail _ (.tail _ (.tail _ (.tail _ (.head _)))) | exact .tail _ (.tail _ (.tail _ (.tail _ (.tail _ (.head _))))) | exact .tail _ (.tail _ (.tail _ (.tail _ (.tail _ (.tail _ (.head _)))))) | exact .tail _ (.tail _ (.tail _ (.tail _ (.tail _ (.tail _ (.tail _ (.head _))))))) | exact .tail _ (.tail _ (.tail _ (.tail _ (.tail _ (.tail _ (.tail _ (.tail _ (.head _)))))))) | exact .tail _ (.tail _ (.tail _ (.tail _ (.tail _ (.tail _ (.tail _ (.tail _ (.tail _ (.head _))))))))) | exact .tail _ (.tail _ (.tail _ (.tail _ (.tail _ (.tail _ (.tail _ (.tail _ (.tail _ (.tail _ (.head _)))))))))) | exact .tail _ (.tail _ (.tail _ (.tail _ (.tail _ (.tail _ (.tail _ (.tail _ (.tail _ (.tail _ (.tail _ (.head _))))))))))) | exact .tail _ (.tail _ (.tail _ (.tail _ (.tail _ (.tail _ (.tail _ (.tail _ (.tail _ (.tail _ (.tail _ (.tail _ (.head _)))))))))))) | exact .tail _ (.tail _ (.tail _ (.tail _ (.tail _ (.tail _ (.tail _ (.tail _ (.tail _ (.tail _ (.tail _ (.tail _ (.tail _ (.head _)))))))))))))) fun b59 c59 => ?_)
            refine GL_y rfl rfl (Y_assign rfl) ?_
            refine GL_nil ?_
            (repeat (first | (with_reducible refine R_seq ?_) | (with_reducible refine R_block_normal ?_)))
            (repeat (with_reducible refine G_seq ?_))
            refine G_region ?_
            refine GL_y rfl rfl (Y_move rfl) ?_
            refine GL_y rfl rfl (Y_addN (b := 37) rfl rfl (by first | omega | decide)) ?_
            refine GL_y rfl rfl (Y_assign rfl) ?_
            refine GL_nil ?_
            (repeat (first | (with_reducible refine R_seq ?_) | (with_reducible refine R_block_normal ?_)))
            (repeat (with_reducible refine R_block_normal ?_))
            refine R_fam ⟨some ⟨b59, 0, none⟩, c59, [⟨b59, 39, c59 * 34, ringL (i.ring ++ [keyOf (bs.drop i.pos)]), (0, 0)⟩], i.ring ++ [keyOf (bs.drop i.pos)], i.pos + 37⟩ ?_ (⟨by first | rfl | decide, by first | rfl | decide, by first | rfl | decide, by first | rfl | decide, by first | rfl | decide, trivial⟩) (by repeat (first | exact .nil | exact Pick.rfl' _ | exact Pick.skip (Pick.rfl' _) | exact Pick.skip (Pick.skip (Pick.rfl' _)) | (apply Pick.cons; focus (first | exact .head | exact (.tail .head) | exact (.tail (.tail .head)) | exact (.tail (.tail (.tail .head))) | exact (.tail (.tail (.tail (.tail .head)))) | exact (.tail (.tail (.tail (.tail (.tail .head))))) | exact (.tail (.tail (.tail (.tail (.tail (.tail .head)))))) | exact (.tail (.tail (.tail (.tail (.tail (.tail (.tail .head))))))) | exact (.tail (.tail (.tail (.tail (.tail (.tail (.tail (.tail .head)))))))) | exact (.tail (.tail (.tail (.tail (.tail (.tail (.tail (.tail (.tail .head))))))))) | exact (.tail (.tail (.tail (.tail (.tail (.tail (.tail (.tail (.tail (.tail .head)))))))))) | exact (.tail (.tail (.tail (.tail (.tail (.tail (.tail (.tail (.tail (.tail (.tail .head))))))))))) | exact (.tail (.tail (.tail (.tail (.tail (.tail (.tail (.tail (.tail (.tail (.tail (.tail .head)))))))))))) | exact (.tail (.tail (.tail (.tail (.tail (.tail (.tail (.tail (.tail (.tail (.tail (.tail (.tail .head)))))))))))))))))
            refine ⟨⟨by simp only [List.length_append, List.length_singleton]; omega, by simp only; omega, .inr ⟨b59, rfl, rfl⟩, ?_⟩, by simp only; omega⟩
            have h := keysOf_app hk hr8 (by rw [List.length_drop]; omega)
            rw [List.drop_drop] at h
            exact h
        · -- 13 comes up
          refine GO_w rfl rfl rfl rfl (W_alloc zr39 fun b6 => ⟨⟨_, by repeat (first | exact .nil | exact Pick.rfl' _ | exact Pick.skip (Pick.rfl' _) | exact Pick.skip (Pick.skip (Pick.rfl' _)) | (apply Pick.cons; focus (first | exact .head | exact (.tail .head) | exact (.tail (.tail .head)) | exact (.tail (.tail (.tail .head))) | exact (.tail (.tail (.tail (.tail .head)))) | exact (.tail (.tail (.tail (.tail (.tail .head))))) | exact (.tail (.tail (.tail (.tail (.tail (.tail .head)))))) | exact (.tail (.tail (.tail (.tail (.tail (.tail (.tail .head))))))) | exact (.tail (.tail (.tail (.tail (.tail (.tail (.tail (.tail .head)))))))) | exact (.tail (.tail (.tail (.tail (.tail (.tail (.tail (.tail (.tail .head))))))))) | exact (.tail (.tail (.tail (.tail (.tail (.tail (.tail (.tail (.tail (.tail .head)))))))))) | exact (.tail (.tail (.tail (.tail (.tail (.tail (.tail (.tail (.tail (.tail (.tail .head))))))))))) | exact (.tail (.tail (.tail (.tail (.tail (.tail (.tail (.tail (.tail (.tail (.tail (.tail .head)))))))))))) | exact (.tail (.tail (.tail (.tail (.tail (.tail (.tail (.tail (.tail (.tail (.tail (.tail (.tail .head))))))))))))))))⟩, ?_⟩)
          refine GA_one 5 (by kernel_rfl) ?_
          refine GO_call rfl rfl rfl rfl rfl rfl Try.call25 (fun w hw => number_is (hsl.keep hw (by simp)) (by rw [List.length_take, List.length_drop]; omega) hx0 hx1 hx2 hx3) ?_
          rintro _ _ ⟨rfl, rfl⟩
          refine GA_y 12 rfl (by kernel_rfl) (by kernel_rfl) (by kernel_rfl) (fun _ _ _ h => h) rfl rfl rfl (Y_build (v := .agg (keyL (keyP (bs.drop i.pos) 0)).toArray) (vs := [(0, .int .i64 (keyP (bs.drop i.pos) 0).num), (2, .bool (keyP (bs.drop i.pos) 0).rev)]) rfl (fun w => build39' (keyP (bs.drop i.pos) 0) (partB_zero _) w)) ?_
          refine GA_one 14 (by kernel_rfl) ?_
          refine GO_s rfl rfl rfl (S_all rfl rfl ag39 (keyL_len _) (keyL_all _) (by first | exact .head | exact (.tail .head) | exact (.tail (.tail .head)) | exact (.tail (.tail (.tail .head))) | exact (.tail (.tail (.tail (.tail .head)))) | exact (.tail (.tail (.tail (.tail (.tail .head))))) | exact (.tail (.tail (.tail (.tail (.tail (.tail .head)))))) | exact (.tail (.tail (.tail (.tail (.tail (.tail (.tail .head))))))) | exact (.tail (.tail (.tail (.tail (.tail (.tail (.tail (.tail .head)))))))) | exact (.tail (.tail (.tail (.tail (.tail (.tail (.tail (.tail (.tail .head))))))))) | exact (.tail (.tail (.tail (.tail (.tail (.tail (.tail (.tail (.tail (.tail .head)))))))))) | exact (.tail (.tail (.tail (.tail (.tail (.tail (.tail (.tail (.tail (.tail (.tail .head))))))))))) | exact (.tail (.tail (.tail (.tail (.tail (.tail (.tail (.tail (.tail (.tail (.tail (.tail .head)))))))))))) | exact (.tail (.tail (.tail (.tail (.tail (.tail (.tail (.tail (.tail (.tail (.tail (.tail (.tail .head)))))))))))))) (by rfl)) ?_
          refine GA_done (by kernel_rfl) ?_
          (repeat (first | (with_reducible refine R_seq ?_) | (with_reducible refine R_block_normal ?_)))
          (repeat (with_reducible refine G_seq ?_))
          refine G_region ?_
          refine GL_y rfl rfl (Y_assign rfl) ?_
          refine GL_nil ?_
          (repeat (first | (with_reducible refine R_seq ?_) | (with_reducible refine R_block_normal ?_)))
          (repeat (with_reducible refine G_seq ?_))
          refine G_block ?_
          (repeat (with_reducible refine G_seq ?_))
          refine G_loop (ι := Nat) (fun q => 32 - q) (fun q => q ≤ 32) (fun q => [(0, .slice ao bs.length c), (2, .slice none 0 0), (3, .bool false), (4, .slice i.ao i.ring.length i.c), (5, .int .i64 (i.pos : Int)), (6, .pointer (some ⟨b6, 0, none⟩)), (7, .int .i64 (q : Int))]) (fun q => ⟨b6, 39, 34, keyL (keyP (bs.drop i.pos) q), (0, 0)⟩ :: i.N) 0 ?_ (⟨by first | rfl | decide, by first | rfl | decide, by first | rfl | decide, by first | rfl | decide, by first | rfl | decide, by first | rfl | decide, by first | rfl | decide, trivial⟩) (by repeat (first | exact .nil | exact Pick.rfl' _ | exact Pick.skip (Pick.rfl' _) | exact Pick.skip (Pick.skip (Pick.rfl' _)) | (apply Pick.cons; focus (first | exact .head | exact (.tail .head) | exact (.tail (.tail .head)) | exact (.tail (.tail (.tail .head))) | exact (.tail (.tail (.tail (.tail .head)))) | exact (.tail (.tail (.tail (.tail (.tail .head))))) | exact (.tail (.tail (.tail (.tail (.tail (.tail .head)))))) | exact (.tail (.tail (.tail (.tail (.tail (.tail (.tail .head))))))) | exact (.tail (.tail (.tail (.tail (.tail (.tail (.tail (.tail .head)))))))) | exact (.tail (.tail (.tail (.tail (.tail (.tail (.tail (.tail (.tail .head))))))))) | exact (.tail (.tail (.tail (.tail (.tail (.tail (.tail (.tail (.tail (.tail .head)))))))))) | exact (.tail (.tail (.tail (.tail (.tail (.tail (.tail (.tail (.tail (.tail (.tail .head))))))))))) | exact (.tail (.tail (.tail (.tail (.tail (.tail (.tail (.tail (.tail (.tail (.tail (.tail .head)))))))))))) | exact (.tail (.tail (.tail (.tail (.tail (.tail (.tail (.tail (.tail (.tail (.tail (.tail (.tail .head))))))))))))))))) ?_
          · omega
          intro q hq
          (repeat (with_reducible refine G_seq ?_))
          refine G_region ?_
          refine GL_y rfl rfl (Y_move rfl) ?_
          refine GL_y rfl rfl (Y_lssN (b := 32) rfl rfl) ?_
          refine GL_nil ?_
          (repeat (first | (with_reducible refine R_seq ?_) | (with_reducible refine R_block_normal ?_)))
          (repeat (with_reducible refine G_seq ?_))
          refine G_cond_dec rfl (fun ht43 => ?_) (fun ht43 => ?_)
          · -- yes
            (repeat (with_reducible refine G_seq ?_))
            refine G_skip ?_
            (repeat (first | (with_reducible refine R_seq ?_) | (with_reducible refine R_block_normal ?_)))
            (repeat (with_reducible refine G_seq ?_))
            refine G_block ?_
            have hxq : bs[i.pos + 4 + q]? = some (bAt (bs.drop i.pos) (4 + q)) := by
              rw [bAt_drop, bAt, ← Nat.add_assoc, List.getElem?_eq_getElem (by omega)]; rfl
            (repeat (with_reducible refine G_seq ?_))
            refine G_region ?_
            refine GL_y rfl rfl (Y_move rfl) ?_
            refine GL_y rfl rfl (Y_move rfl) ?_
            refine GL_y rfl rfl (Y_move rfl) ?_
            refine GL_y rfl rfl (Y_addN (b := 4) rfl rfl (by first | omega | decide)) ?_
            refine GL_y rfl rfl (Y_move rfl) ?_
            refine GL_y rfl rfl (Y_addN rfl rfl (by first | omega | decide)) ?_
            refine GL_y rfl rfl (Y_bAt (j := i.pos + 4 + q) hs rfl rfl hxq rfl) ?_
            refine GL_y rfl rfl (Y_bGet hs (by simp) rfl hxq) ?_
            refine GL_y rfl rfl (Y_field fd39_1 rfl) ?_
            refine GL_y rfl rfl (Y_idxA1 ar28 rfl rfl (by first | omega | decide)) ?_
            refine GL_s rfl (S_sc rfl sc5 rfl rfl (by first | exact .head | exact (.tail .head) | exact (.tail (.tail .head)) | exact (.tail (.tail (.tail .head))) | exact (.tail (.tail (.tail (.tail .head)))) | exact (.tail (.tail (.tail (.tail (.tail .head))))) | exact (.tail (.tail (.tail (.tail (.tail (.tail .head)))))) | exact (.tail (.tail (.tail (.tail (.tail (.tail (.tail .head))))))) | exact (.tail (.tail (.tail (.tail (.tail (.tail (.tail (.tail .head)))))))) | exact (.tail (.tail (.tail (.tail (.tail (.tail (.tail (.tail (.tail .head))))))))) | exact (.tail (.tail (.tail (.tail (.tail (.tail (.tail (.tail (.tail (.tail .head)))))))))) | exact (.tail (.tail (.tail (.tail (.tail (.tail (.tail (.tail (.tail (.tail (.tail .head))))))))))) | exact (.tail (.tail (.tail (.tail (.tail (.tail (.tail (.tail (.tail (.tail (.tail (.tail .head)))))))))))) | exact (.tail (.tail (.tail (.tail (.tail (.tail (.tail (.tail (.tail (.tail (.tail (.tail (.tail .head)))))))))))))) (keyP_set _ ht43)) ?_
            refine GL_nil ?_
            (repeat (first | (with_reducible refine R_seq ?_) | (with_reducible refine R_block_normal ?_)))
            (repeat (with_reducible refine G_seq ?_))
            refine G_region ?_
            refine GL_y rfl rfl (Y_move rfl) ?_
            refine GL_y rfl rfl (Y_addN (b := 1) rfl rfl (by first | omega | decide)) ?_
            refine GL_y rfl rfl (Y_assign rfl) ?_
            refine GL_nil ?_
            (repeat (first | (with_reducible refine R_seq ?_) | (with_reducible refine R_block_normal ?_)))
            (repeat (with_reducible refine R_block_normal ?_))
            refine R_fam (q + 1) ?_ (⟨by first | rfl | decide, by first | rfl | decide, by first | rfl | decide, by first | rfl | decide, by first | rfl | decide, by first | rfl | decide, by first | rfl | decide, trivial⟩) (by repeat (first | exact .nil | exact Pick.rfl' _ | exact Pick.skip (Pick.rfl' _) | exact Pick.skip (Pick.skip (Pick.rfl' _)) | (apply Pick.cons; focus (first | exact .head | exact (.tail .head) | exact (.tail (.tail .head)) | exact (.tail (.tail (.tail .head))) | exact (.tail (.tail (.tail (.tail .head)))) | exact (.tail (.tail (.tail (.tail (.tail .head))))) | exact (.tail (.tail (.tail (.tail (.tail (.tail .head)))))) | exact (.tail (.tail (.tail (.tail (.tail (.tail (.tail .head))))))) | exact (.tail (.tail (.tail (.tail (.tail (.tail (.tail (.tail .head)))))))) | exact (.tail (.tail (.tail (.tail (.tail (.tail (.tail (.tail (.tail .head))))))))) | exact (.tail (.tail (.tail (.tail (.tail (.tail (.tail (.tail (.tail (.tail .head)))))))))) | exact (.tail (.tail (.tail (.tail (.tail (.tail (.tail (.tail (.tail (.tail (.tail .head))))))))))) | exact (.tail (.tail (.tail (.tail (.tail (.tail (.tail (.tail (.tail (.tail (.tail (.tail .head)))))))))))) | exact (.tail (.tail (.tail (.tail (.tail (.tail (.tail (.tail (.tail (.tail (.tail (.tail (.tail .head)))))))))))))))))
            exact ⟨by omega, by omega⟩
          · -- no
            (repeat (with_reducible refine G_seq ?_))
            refine G_exit ?_
            (repeat (first | (with_reducible refine R_then_exit ?_) | (with_reducible refine R_block_exit ?_) | (with_reducible refine R_block_other (by decide) ?_)))
            (repeat (first | (with_reducible refine R_seq ?_) | (with_reducible refine R_block_normal ?_)))
            obtain rfl : q = 32 := by omega
            (repeat (with_reducible refine G_seq ?_))
            refine G_region ?_
            refine GL_y rfl rfl (Y_move rfl) ?_
            refine GL_y rfl rfl (Y_loadA (xs := keyL (keyP (bs.drop i.pos) 32)) rfl (by first | exact .head _ | exact .tail _ (.head _) | exact .tail _ (.tail _ (.head _)) | exact .tail _ (.tail _ (.tail _ (.head _))) | exact .tail _ (.tail _ (.tail _ (.tail _ (.head _)))) | exact .tail _ (.tail _ (.tail _ (.tail _ (.tail _ (.head _))))) | exact .tail _ (.tail _ (.tail _ (.tail _ (.tail _ (.tail _ (.head _)))))) | exact .tail _ (.tail _ (.tail _ (.tail _ (.tail _ (.tail _ (.tail _ (.head _))))))) | exact .tail _ (.tail _ (.tail _ (.tail _ (.tail _ (.tail _ (.tail _ (.tail _ (.head _)))))))) | exact .tail _ (.tail _ (.tail _ (.tail _ (.tail _ (.tail _ (.tail _ (.tail _ (.tail _ (.head _))))))))) | exact .tail _ (.tail _ (.tail _ (.tail _ (.tail _ (.tail _ (.tail _ (.tail _ (.tail _ (.tail _ (.head _)))))))))) | exact .tail _ (.tail _ (.tail _ (.tail _ (.tail _ (.tail _ (.tail _ (.tail _ (.tail _ (.tail _ (.tail _ (.head _))))))))))) | exact .tail _ (.tail _ (.tail _ (.tail _ (.tail _ (.tail _ (.tail _ (.tail _ (.tail _ (.tail _ (.tail _ (.tail _ (.head _)))))))))))) | exact .tail _ (.tail _ (.tail _ (.tail _ (.tail _ (.tail _ (.tail _ (.tail _ (.tail _ (.tail _ (.tail _ (.tail _ (.tail _ (.head _)))))))))))))) ag39 (keyL_len _)) ?_
            refine GL_w rfl rfl (W_bs1 (xs := keyL (keyP (bs.drop i.pos) 32)) Try.underlying22 el39 rfl (keyL_len _) (by decide) (by decide) fun b58 => ?_)
            refine GL_w rfl rfl (W_appKey (kd := keyOf (bs.drop i.pos)) hO rfl rfl rfl (by omega) (.skip (.skip (Pick.rfl' _))) (by first | exact .head _ | exact .tail _ (.head _) | exact .tail _ (.tail _ (.head _)) | exact .tail _ (.tail _ (.tail _ (.head _))) | exact .tail _ (.tail _ (.tail _ (.tail _ (.head _)))) | exact .tail _ (.tail _ (.tail _ (.tail _ (.tail _ (.head _))))) | exact .tail _ (.tail _ (.tail _ (.tail _ (.tail _ (.tail _ (.head _)))))) | exact .tail _ (.tail _ (.tail _ (.tail _ (.tail _ (.tail _ (.tail _ (.head _))))))) | exact .tail _ (.tail _ (.tail _ (.tail _ (.tail _ (.tail _ (.tail _ (.tail _ (.head _)))))))) | exact .tail _ (.tail _ (.tail _ (.tail _ (.tail _ (.tail _ (.tail _ (.tail _ (.tail _ (.head _))))))))) | exact .tail _ (.tail _ (.tail _ (.tail _ (.tail _ (.tail _ (.tail _ (.tail _ (.tail _ (.tail _ (.head _)))))))))) | exact .tail _ (.tail _ (.tail _ (.tail _ (.tail _ (.tail _ (.tail _ (.tail _ (.tail _ (.tail _ (.tail _ (.head _))))))))))) | exact .tail _ (.tail _ (.tail _ (.tail _ (.tail _ (.tail _ (.tail _ (.tail _ (.tail _ (.tail _ (.tail _ (.tail _ (.head _)))))))))))) | exact .tail _ (.tail _ (.tail _ (.tail _ (.tail _ (.tail _ (.tail _ (.tail _ (.tail _ (.tail _ (.tail _ (.tail _ (.tail _ (.head _)))))))))))))) fun b59 c59 => ?_)
            refine GL_y rfl rfl (Y_assign rfl) ?_
            refine GL_nil ?_
            (repeat (first | (with_reducible refine R_seq ?_) | (with_reducible refine R_block_normal ?_)))
            (repeat (with_reducible refine G_seq ?_))
            refine G_region ?_
            refine GL_y rfl rfl (Y_move rfl) ?_
            refine GL_y rfl rfl (Y_addN (b := 37) rfl rfl (by first | omega | decide)) ?_
            refine GL_y rfl rfl (Y_assign rfl) ?_
            refine GL_nil ?_
            (repeat (first | (with_reducible refine R_seq ?_) | (with_reducible refine R_block_normal ?_)))
            (repeat (with_reducible refine R_block_normal ?_))
            refine R_fam ⟨some ⟨b59, 0, none⟩, c59, [⟨b59, 39, c59 * 34, ringL (i.ring ++ [keyOf (bs.drop i.pos)]), (0, 0)⟩], i.ring ++ [keyOf (bs.drop i.pos)], i.pos + 37⟩ ?_ (⟨by first | rfl | decide, by first | rfl | decide, by first | rfl | decide, by first | rfl | decide, by first | rfl | decide, trivial⟩) (by repeat (first | exact .nil | exact Pick.rfl' _ | exact Pick.skip (Pick.rfl' _) | exact Pick.skip (Pick.skip (Pick.rfl' _)) | (apply Pick.cons; focus (first | exact .head | exact (.tail .head) | exact (.tail (.tail .head)) | exact (.tail (.tail (.tail .head))) | exact (.tail (.tail (.tail (.tail .head)))) | exact (.tail (.tail (.tail (.tail (.tail .head))))) | exact (.tail (.tail (.tail (.tail (.tail (.tail .head)))))) | exact (.tail (.tail (.tail (.tail (.tail (.tail (.tail .head))))))) | exact (.tail (.tail (.tail (.tail (.tail (.tail (.tail (.tail .head)))))))) | exact (.tail (.tail (.tail (.tail (.tail (.tail (.tail (.tail (.tail .head))))))))) | exact (.tail (.tail (.tail (.tail (.tail (.tail (.tail (.tail (.tail (.tail .head)))))))))) | exact (.tail (.tail (.tail (.tail (.tail (.tail (.tail (.tail (.tail (.tail (.tail .head))))))))))) | exact (.tail (.tail (.tail (.tail (.tail (.tail (.tail (.tail (.tail (.tail (.tail (.tail .head)))))))))))) | exact (.tail (.tail (.tail (.tail (.tail (.tail (.tail (.tail (.tail (.tail (.tail (.tail (.tail .head)))))))))))))))))
            refine ⟨⟨by simp only [List.length_append, List.length_singleton]; omega, by simp only; omega, .inr ⟨b59, rfl, rfl⟩, ?_⟩, by simp only; omega⟩
            have h := keysOf_app hk hr8 (by rw [List.length_drop]; omega)
            rw [List.drop_drop] at h
            exact h
      · -- no
        (repeat (with_reducible refine G_seq ?_))
        refine G_exit ?_
        (repeat (first | (with_reducible refine R_then_exit ?_) | (with_reducible refine R_block_exit ?_) | (with_reducible refine R_block_other (by decide) ?_)))
        (repeat (first | (with_reducible refine R_seq ?_) | (with_reducible refine R_block_normal ?_)))
        have hks : keysOf 8 (bs.drop 8) = i.ring := keysOf_all hk (by omega)
        rw [hks] at hm
        rw [hks] at hb
        (repeat (with_reducible refine G_seq ?_))
        refine G_draw [] 11 rfl (by kernel_rfl) ?_
        refine GA_y 0 rfl (by kernel_rfl) (by kernel_rfl) (by kernel_rfl) (fun _ _ _ h => h) rfl rfl rfl (Y_move rfl) ?_
        refine GA_one 1 (by kernel_rfl) ?_
        refine GO_call rfl rfl rfl rfl rfl rfl Try.call13 (fun w hw => refMay_is (hO.sl hw) (by omega) hm) ?_
        rintro _ _ ⟨rfl, rfl⟩
        refine GA_y 2 rfl (by kernel_rfl) (by kernel_rfl) (by kernel_rfl) (fun _ _ _ h => h) rfl rfl rfl (Y_not rfl) ?_
        refine GA_y 3 rfl (by kernel_rfl) (by kernel_rfl) (by kernel_rfl) (fun _ _ _ h => h) rfl rfl rfl (Y_move rfl) ?_
        refine GA_y 4 rfl (by kernel_rfl) (by kernel_rfl) (by kernel_rfl) (fun _ _ _ h => h) rfl rfl rfl (Y_move rfl) ?_
        refine GA_y 7 rfl (by kernel_rfl) (by kernel_rfl) (by kernel_rfl) (fun _ _ _ h => h) rfl rfl rfl (Y_move rfl) ?_
        refine GA_y 8 rfl (by kernel_rfl) (by kernel_rfl) (by kernel_rfl) (fun _ _ _ h => h) rfl rfl rfl (Y_str (bs := bs) Try.underlying24 Try.underlying5 Try.underlying9 rfl rfl (fun w s => hs.keep s (by simp))) ?_
        refine GA_one 5 (by kernel_rfl) ?_
        refine GO_call rfl rfl rfl rfl rfl rfl Try.call15 (fun w hw => refBytes_is (hO.sl hw) (by omega) hm) ?_
        rintro _ _ ⟨b65, c65, _, rfl, rfl⟩
        refine GA_l 6 rfl (by kernel_rfl) (by kernel_rfl) (by kernel_rfl) (fun _ _ _ h => h) rfl rfl rfl rfl (Y_str (bs := bytesD i.ring) Try.underlying24 Try.underlying5 Try.underlying9 rfl rfl (fun w s => SlAt.mk' (s.cells (k := ⟨b65, 5, c65 * 1, B (bytesD i.ring), (0, 0)⟩) (by first | exact .head _ | exact .tail _ (.head _) | exact .tail _ (.tail _ (.head _)) | exact .tail _ (.tail _ (.tail _ (.head _))) | exact .tail _ (.tail _ (.tail _ (.tail _ (.head _)))) | exact .tail _ (.tail _ (.tail _ (.tail _ (.tail _ (.head _))))) | exact .tail _ (.tail _ (.tail _ (.tail _ (.tail _ (.tail _ (.head _)))))) | exact .tail _ (.tail _ (.tail _ (.tail _ (.tail _ (.tail _ (.tail _ (.head _))))))) | exact .tail _ (.tail _ (.tail _ (.tail _ (.tail _ (.tail _ (.tail _ (.tail _ (.head _)))))))) | exact .tail _ (.tail _ (.tail _ (.tail _ (.tail _ (.tail _ (.tail _ (.tail _ (.tail _ (.head _))))))))) | exact .tail _ (.tail _ (.tail _ (.tail _ (.tail _ (.tail _ (.tail _ (.tail _ (.tail _ (.tail _ (.head _)))))))))) | exact .tail _ (.tail _ (.tail _ (.tail _ (.tail _ (.tail _ (.tail _ (.tail _ (.tail _ (.tail _ (.tail _ (.head _))))))))))) | exact .tail _ (.tail _ (.tail _ (.tail _ (.tail _ (.tail _ (.tail _ (.tail _ (.tail _ (.tail _ (.tail _ (.tail _ (.head _)))))))))))) | exact .tail _ (.tail _ (.tail _ (.tail _ (.tail _ (.tail _ (.tail _ (.tail _ (.tail _ (.tail _ (.tail _ (.tail _ (.tail _ (.head _))))))))))))))))) ?_
        refine GA_y 9 rfl (by kernel_rfl) (by kernel_rfl) (by kernel_rfl) (fun _ _ _ h => h) rfl rfl rfl (Y_neqstr rfl rfl) ?_
        refine GA_y 10 rfl (by kernel_rfl) (by kernel_rfl) (by kernel_rfl) (fun _ _ _ h => h) rfl rfl rfl (Y_pick rfl rfl rfl rfl) ?_
        refine GA_done (by kernel_rfl) ?_
        (repeat (first | (with_reducible refine R_seq ?_) | (with_reducible refine R_block_normal ?_)))
        (repeat (with_reducible refine G_seq ?_))
        refine G_cond_f rfl (by simp [hb]) ?_
        (repeat (with_reducible refine G_seq ?_))
        refine G_skip ?_
        (repeat (first | (with_reducible refine R_seq ?_) | (with_reducible refine R_block_normal ?_)))
        (repeat (with_reducible refine G_seq ?_))
        refine G_region ?_
        refine GL_y rfl rfl (Y_move rfl) ?_
        refine GL_y rfl rfl (Y_assign rfl) ?_
        refine GL_y rfl rfl (Y_assign rfl) ?_
        refine GL_nil ?_
        (repeat (first | (with_reducible refine R_seq ?_) | (with_reducible refine R_block_normal ?_)))
        (repeat (with_reducible refine G_seq ?_))
        refine G_ret ?_
        (repeat (first | (with_reducible refine R_then_ret ?_) | (with_reducible refine R_block_ret ?_)))
        refine R_ret (.tmp rfl (.tmp rfl .nil)) i.N (by repeat (first | exact .nil | exact Pick.rfl' _ | exact Pick.skip (Pick.rfl' _) | exact Pick.skip (Pick.skip (Pick.rfl' _)) | (apply Pick.cons; focus (first | exact .head | exact (.tail .head) | exact (.tail (.tail .head)) | exact (.tail (.tail (.tail .head))) | exact (.tail (.tail (.tail (.tail .head)))) | exact (.tail (.tail (.tail (.tail (.tail .head))))) | exact (.tail (.tail (.tail (.tail (.tail (.tail .head)))))) | exact (.tail (.tail (.tail (.tail (.tail (.tail (.tail .head))))))) | exact (.tail (.tail (.tail (.tail (.tail (.tail (.tail (.tail .head)))))))) | exact (.tail (.tail (.tail (.tail (.tail (.tail (.tail (.tail (.tail .head))))))))) | exact (.tail (.tail (.tail (.tail (.tail (.tail (.tail (.tail (.tail (.tail .head)))))))))) | exact (.tail (.tail (.tail (.tail (.tail (.tail (.tail (.tail (.tail (.tail (.tail .head))))))))))) | exact (.tail (.tail (.tail (.tail (.tail (.tail (.tail (.tail (.tail (.tail (.tail (.tail .head)))))))))))) | exact (.tail (.tail (.tail (.tail (.tail (.tail (.tail (.tail (.tail (.tail (.tail (.tail (.tail .head))))))))))))))))) ⟨i.ao, i.c, by rw [hks]; rfl, by rw [hks]; exact hO⟩
theorem parse_no {ao : Option Addr} {c : Nat} {bs : List UInt8} {w : World} (hs : SlAt w ao (B bs)) (hc : bs.length ≤ c) (hl : bs.length ≤ 1000) (h : okB bs = false) : FnAt Try.prog 17 [.slice ao bs.length c] [] w (Ret fun v N => v = .tuple #[.slice none 0 0, .int .i64 4] ∧ N = []) := by
  by_cases h8 : 8 ≤ bs.length
  · cases hm : mayB (keysOf 8 (bs.drop 8)) with
    | false => exact parse_bad hs hc hl h8 hm
    | true => exact parse_ne hs hc hl h8 hm (fun hb => by simp [okB, h8, hm, hb] at h)
  · exact parse_short (by omega)
theorem refParse_no {ao : Option Addr} {c : Nat} {bs : List UInt8} {w : World} (hs : SlAt w ao (B bs)) (hc : bs.length ≤ c) (hl : bs.length ≤ 1000) (h : okB bs = false) : FnAt Try.prog 18 [.slice ao bs.length c] [] w (Ret fun v N => v = .tuple #[.slice none 0 0, .bool false] ∧ N = []) := by
  by_cases hf : 8 ≤ bs.length ∧ (bs.length - 8) % 37 = 0 ∧ bs.length ≤ 304
  · cases hm : mayB (keysOf 8 (bs.drop 8)) with
    | false => exact refParse_bad hs hc hl hf.1 hf.2.1 hf.2.2 hm
    | true => exact refParse_ne hs hc hl hf.1 hf.2.1 hf.2.2 hm (fun hb => by simp [okB, hf.1, hm, hb] at h)
  · exact refParse_form hl hf
theorem parse_ok {l : Nat} {ao : Option Addr} {c : Nat} {bs : List UInt8} {w : World} (hs : SlAt w ao (B bs)) (hc : bs.length ≤ c) (hl : bs.length ≤ 1000) (e : l = bs.length) {ks : List KeyD} (hk : keysOf 8 (bs.drop 8) = ks) (h : okB bs = true) :
    FnAt Try.prog 17 [.slice ao l c] [] w (Ret fun v N => ∃ ao' c', v = .tuple #[.slice ao' ks.length c', .int .i64 0] ∧ Own N ao' c' ks) := by
  subst e; subst hk
  obtain ⟨h1, h2, h3⟩ := okB_of h
  exact parse_ok0 hs hc hl h1 h2 h3
theorem refParse_ok {ao : Option Addr} {c : Nat} {bs : List UInt8} {w : World} (hs : SlAt w ao (B bs)) (hc : bs.length ≤ c) (hl : bs.length ≤ 1000) {ks : List KeyD} (hk : keysOf 8 (bs.drop 8) = ks) (h : okB bs = true) :
    FnAt Try.prog 18 [.slice ao bs.length c] [] w (Ret fun v N => ∃ ao' c', v = .tuple #[.slice ao' ks.length c', .bool true] ∧ Own N ao' c' ks) := by
  subst hk
  obtain ⟨h1, h2, h3⟩ := okB_of h
  have h4 := okB_form h
  exact refParse_ok0 hs hc hl h1 h4.1 h4.2 h2 h3
end Go.Proofs.Ytkdodpcafamhaaa

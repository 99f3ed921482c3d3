/-
  The document's Parse.
-/
import Derived.Test.YthabomkcangegaaMA
namespace Go.Proofs.Ythabomkcangegaa
open Go Go.Sl Go.RowKit


theorem segP_set (l : List UInt8) {q : Nat} (hq : q < 32) : setL (segL (segP l q)) (0 + 2 + q) (bv (bAt l (8 + q))) = some (segL (segP l (q + 1))) := by
  have hq1 : 0 + 2 + q = q + 1 + 1 := by omega
  rw [setL_of (by rw [segL_len]; omega), hq1]
  have e : (B (partB l q)).set q (bv (bAt l (8 + q))) = B (partB l (q + 1)) := by
    have h : (partB l q).set q (bAt l (8 + q)) = partB l (q + 1) := by
      apply List.ext_getElem?
      intro i
      simp only [partB, List.getElem?_set, List.length_map, List.length_range, List.getElem?_map, hq, if_true]
      by_cases hi : i < 32
      · have h1 : i < (List.range 32).length := by simpa using hi
        simp only [List.getElem?_eq_getElem h1, List.getElem_range, Option.map_some]
        by_cases hij : q = i
        · subst hij; simp
        · rw [if_neg hij]
          by_cases h2 : i < q
          · rw [if_pos h2, if_pos (by omega)]
          · rw [if_neg h2, if_neg (by omega)]
      · have : q ≠ i := by omega
        rw [if_neg this]; simp [hi]
    rw [← h]; simp [B, List.map_set]
  show some (Value.int .i64 _ :: Value.int .i64 _ :: (B (partB l q)).set q (bv (bAt l (8 + q)))) = _
  rw [e]
  rfl
def z32 : List UInt8 := List.replicate 32 0
theorem partB_zero (l : List UInt8) : partB l 0 = z32 := by
  unfold partB z32
  apply List.ext_getElem?
  intro i
  simp only [List.getElem?_map, List.getElem?_replicate]
  by_cases hi : i < 32
  · rw [List.getElem?_eq_getElem (by simpa using hi), if_pos hi]; simp
  · rw [List.getElem?_eq_none (by simpa using hi), if_neg hi]; rfl
theorem built47 (parts : List (Nat × Value)) : Try.prog.built 47 parts = Instr.fill (#[(0, 1), (1, 1), (2, 32)][·]?) (([.int .i64 0, .int .i64 0] ++ List.replicate 32 (bv 0) : List Value)).toArray parts := by kernel_rfl
theorem build47 (l : List UInt8) (w : World) : (Instr.build 47 #[(0, .int .i64 (segP l 0).load), (1, .int .i64 (segP l 0).bytes)]).run Try.prog w = .ok (.agg (segL (segP l 0)).toArray) w := by
  refine run_build w 47 _ _ ?_
  rw [built47, fill_step (ys := [.int .i64 (segP l 0).load]) (off := 0) rfl rfl (by simp), fill_step (ys := [.int .i64 (segP l 0).bytes]) (off := 1) rfl rfl (by simp [put])]
  simp only [Instr.fill, Option.some.injEq]
  congr 1
theorem numAt_take {l : List UInt8} {p n i : Nat} (h : i + 4 ≤ n) : numAt ((l.drop p).take n) i = numAt l (p + i) := by
  simp only [numAt]
  rw [bAt_take (by omega), bAt_take (by omega), bAt_take (by omega), bAt_take (by omega)]
  simp only [bAt_drop, Nat.add_assoc]
structure RI where
  j : Nat
  NS : List Blk
  sa : Option Addr
  sc : Nat
set_option maxHeartbeats 4000000 in
theorem refp_short {ao : Option Addr} {c : Nat} {bs : List UInt8} {w : World} (h24 : bs.length < 24) : FnAt Try.prog 13 [.slice ao bs.length c] [] w (Ret fun v N => v = .tuple #[.agg (manL zeroM none 0).toArray, .bool false] ∧ N = []) := by
  refine FnAt.intro Try.func13 rfl Try.ntmps13 rfl _ rfl ?_
  (repeat (with_reducible refine G_seq ?_))
  refine G_region ?_
  refine GL_w rfl rfl (W_alloc zr24 fun b2 => ?_)
  refine GL_y rfl rfl (Y_assign rfl) ?_
  refine GL_nil ?_
  (repeat (first | (with_reducible refine R_seq ?_) | (with_reducible refine R_block_normal ?_)))
  (repeat (with_reducible refine G_seq ?_))
  refine G_region ?_
  refine GL_w rfl rfl (W_alloc zr24 fun b4 => ?_)
  refine GL_nil ?_
  (repeat (first | (with_reducible refine R_seq ?_) | (with_reducible refine R_block_normal ?_)))
  (repeat (with_reducible refine G_seq ?_))
  refine G_region ?_
  refine GL_y rfl rfl (Y_move rfl) ?_
  refine GL_y rfl rfl (Y_len sl25 rfl) ?_
  refine GL_y rfl rfl (Y_lssN (b := 24) rfl rfl) ?_
  refine GL_nil ?_
  (repeat (first | (with_reducible refine R_seq ?_) | (with_reducible refine R_block_normal ?_)))
  (repeat (with_reducible refine G_seq ?_))
  refine G_cond_t rfl (by simp; omega) ?_
  (repeat (with_reducible refine G_seq ?_))
  refine G_region ?_
  refine GL_y rfl rfl (Y_loadA (b := b4) (xs := [.int .i64 0, .int .i64 0, .int .i64 0, .int .i64 0, .slice none 0 0]) rfl (by first | exact .head _ | exact .tail _ (.head _) | exact .tail _ (.tail _ (.head _)) | exact .tail _ (.tail _ (.tail _ (.head _))) | exact .tail _ (.tail _ (.tail _ (.tail _ (.head _)))) | exact .tail _ (.tail _ (.tail _ (.tail _ (.tail _ (.head _))))) | exact .tail _ (.tail _ (.tail _ (.tail _ (.tail _ (.tail _ (.head _)))))) | exact .tail _ (.tail _ (.tail _ (.tail _ (.tail _ (.tail _ (.tail _ (.head _))))))) | exact .tail _ (.tail _ (.tail _ (.tail _ (.tail _ (.tail _ (.tail _ (.tail _ (.head _)))))))) | exact .tail _ (.tail _ (.tail _ (.tail _ (.tail _ (.tail _ (.tail _ (.tail _ (.tail _ (.head _))))))))) | exact .tail _ (.tail _ (.tail _ (.tail _ (.tail _ (.tail _ (.tail _ (.tail _ (.tail _ (.tail _ (.head _)))))))))) | exact .tail _ (.tail _ (.tail _ (.tail _ (.tail _ (.tail _ (.tail _ (.tail _ (.tail _ (.tail _ (.tail _ (.head _))))))))))) | exact .tail _ (.tail _ (.tail _ (.tail _ (.tail _ (.tail _ (.tail _ (.tail _ (.tail _ (.tail _ (.tail _ (.tail _ (.head _)))))))))))) | exact .tail _ (.tail _ (.tail _ (.tail _ (.tail _ (.tail _ (.tail _ (.tail _ (.tail _ (.tail _ (.tail _ (.tail _ (.tail _ (.head _)))))))))))))) ag24 (by rfl)) ?_
  refine GL_s rfl (S_all rfl rfl ag24 (by rfl) (by rfl) (by first | exact .head | exact (.tail .head) | exact (.tail (.tail .head)) | exact (.tail (.tail (.tail .head))) | exact (.tail (.tail (.tail (.tail .head)))) | exact (.tail (.tail (.tail (.tail (.tail .head))))) | exact (.tail (.tail (.tail (.tail (.tail (.tail .head)))))) | exact (.tail (.tail (.tail (.tail (.tail (.tail (.tail .head))))))) | exact (.tail (.tail (.tail (.tail (.tail (.tail (.tail (.tail .head)))))))) | exact (.tail (.tail (.tail (.tail (.tail (.tail (.tail (.tail (.tail .head))))))))) | exact (.tail (.tail (.tail (.tail (.tail (.tail (.tail (.tail (.tail (.tail .head)))))))))) | exact (.tail (.tail (.tail (.tail (.tail (.tail (.tail (.tail (.tail (.tail (.tail .head))))))))))) | exact (.tail (.tail (.tail (.tail (.tail (.tail (.tail (.tail (.tail (.tail (.tail (.tail .head)))))))))))) | exact (.tail (.tail (.tail (.tail (.tail (.tail (.tail (.tail (.tail (.tail (.tail (.tail (.tail .head)))))))))))))) (by rfl)) ?_
  refine GL_y rfl rfl (Y_assign rfl) ?_
  refine GL_nil ?_
  (repeat (first | (with_reducible refine R_seq ?_) | (with_reducible refine R_block_normal ?_)))
  (repeat (with_reducible refine G_seq ?_))
  refine G_ret ?_
  (repeat (first | (with_reducible refine R_then_ret ?_) | (with_reducible refine R_block_ret ?_)))
  exact R_ret (.ag rfl (by first | exact .head _ | exact .tail _ (.head _) | exact .tail _ (.tail _ (.head _)) | exact .tail _ (.tail _ (.tail _ (.head _))) | exact .tail _ (.tail _ (.tail _ (.tail _ (.head _)))) | exact .tail _ (.tail _ (.tail _ (.tail _ (.tail _ (.head _))))) | exact .tail _ (.tail _ (.tail _ (.tail _ (.tail _ (.tail _ (.head _)))))) | exact .tail _ (.tail _ (.tail _ (.tail _ (.tail _ (.tail _ (.tail _ (.head _))))))) | exact .tail _ (.tail _ (.tail _ (.tail _ (.tail _ (.tail _ (.tail _ (.tail _ (.head _)))))))) | exact .tail _ (.tail _ (.tail _ (.tail _ (.tail _ (.tail _ (.tail _ (.tail _ (.tail _ (.head _))))))))) | exact .tail _ (.tail _ (.tail _ (.tail _ (.tail _ (.tail _ (.tail _ (.tail _ (.tail _ (.tail _ (.head _)))))))))) | exact .tail _ (.tail _ (.tail _ (.tail _ (.tail _ (.tail _ (.tail _ (.tail _ (.tail _ (.tail _ (.tail _ (.head _))))))))))) | exact .tail _ (.tail _ (.tail _ (.tail _ (.tail _ (.tail _ (.tail _ (.tail _ (.tail _ (.tail _ (.tail _ (.tail _ (.head _)))))))))))) | exact .tail _ (.tail _ (.tail _ (.tail _ (.tail _ (.tail _ (.tail _ (.tail _ (.tail _ (.tail _ (.tail _ (.tail _ (.tail _ (.head _)))))))))))))) (by exact ag24) (.tmp rfl .nil)) [] .nil ⟨rfl, rfl⟩
set_option maxHeartbeats 4000000 in
theorem refp_form {ao : Option Addr} {c : Nat} {bs : List UInt8} {w : World} (hs : SlAt w ao (B bs)) (hc : bs.length ≤ c) (hlen : bs.length ≤ 1000) (h24 : 24 ≤ bs.length) (hf : ¬ (numAt bs 20 ≤ 8 ∧ bs.length = 24 + 40 * numAt bs 20)) : FnAt Try.prog 13 [.slice ao bs.length c] [] w (Ret fun v N => v = .tuple #[.agg (manL zeroM none 0).toArray, .bool false] ∧ N = []) := by
  have hnl := num4_lt (bAt bs 20) (bAt bs (20 + 1)) (bAt bs (20 + 2)) (bAt bs (20 + 3))
  replace hnl : numAt bs 20 < 4294967296 := hnl
  refine FnAt.intro Try.func13 rfl Try.ntmps13 rfl _ rfl ?_
  (repeat (with_reducible refine G_seq ?_))
  refine G_region ?_
  refine GL_w rfl rfl (W_alloc zr24 fun b2 => ?_)
  refine GL_y rfl rfl (Y_assign rfl) ?_
  refine GL_nil ?_
  (repeat (first | (with_reducible refine R_seq ?_) | (with_reducible refine R_block_normal ?_)))
  (repeat (with_reducible refine G_seq ?_))
  refine G_region ?_
  refine GL_w rfl rfl (W_alloc zr24 fun b4 => ?_)
  refine GL_nil ?_
  (repeat (first | (with_reducible refine R_seq ?_) | (with_reducible refine R_block_normal ?_)))
  (repeat (with_reducible refine G_seq ?_))
  refine G_region ?_
  refine GL_y rfl rfl (Y_move rfl) ?_
  refine GL_y rfl rfl (Y_len sl25 rfl) ?_
  refine GL_y rfl rfl (Y_lssN (b := 24) rfl rfl) ?_
  refine GL_nil ?_
  (repeat (first | (with_reducible refine R_seq ?_) | (with_reducible refine R_block_normal ?_)))
  (repeat (with_reducible refine G_seq ?_))
  refine G_cond_f rfl (by simp; omega) ?_
  (repeat (with_reducible refine G_seq ?_))
  refine G_skip ?_
  (repeat (first | (with_reducible refine R_seq ?_) | (with_reducible refine R_block_normal ?_)))
  (repeat (with_reducible refine G_seq ?_))
  refine G_region ?_
  refine GL_y rfl rfl (Y_move rfl) ?_
  refine GL_y rfl rfl (Y_slS (vl := some _) (vh := some _) (kl := 4) (kh := 8) sl25 rfl rfl rfl ⟨_, rfl⟩ ⟨_, rfl⟩ (by omega) (by omega) hc) ?_
  refine GL_call rfl rfl rfl rfl Try.call26 .nil (fun w hw => number_is (bs := (bs.drop 4).take 4) ((subB (lo := 4) hs hc 4).keep hw (by simp)) (by rw [List.length_take, List.length_drop]; omega) (by rw [List.length_take, List.length_drop]; omega)) ?_
  rintro _ _ ⟨rfl, rfl⟩
  rw [show numAt ((bs.drop 4).take 4) 0 = numAt bs 4 from numAt_take (l := bs) (p := 4) (n := 4) (i := 0) (by decide)]
  refine GL_y rfl rfl (Y_field fd24_0 rfl) ?_
  refine GL_s rfl (S_sc rfl sc3 rfl rfl (by first | exact .head | exact (.tail .head) | exact (.tail (.tail .head)) | exact (.tail (.tail (.tail .head))) | exact (.tail (.tail (.tail (.tail .head)))) | exact (.tail (.tail (.tail (.tail (.tail .head))))) | exact (.tail (.tail (.tail (.tail (.tail (.tail .head)))))) | exact (.tail (.tail (.tail (.tail (.tail (.tail (.tail .head))))))) | exact (.tail (.tail (.tail (.tail (.tail (.tail (.tail (.tail .head)))))))) | exact (.tail (.tail (.tail (.tail (.tail (.tail (.tail (.tail (.tail .head))))))))) | exact (.tail (.tail (.tail (.tail (.tail (.tail (.tail (.tail (.tail (.tail .head)))))))))) | exact (.tail (.tail (.tail (.tail (.tail (.tail (.tail (.tail (.tail (.tail (.tail .head))))))))))) | exact (.tail (.tail (.tail (.tail (.tail (.tail (.tail (.tail (.tail (.tail (.tail (.tail .head)))))))))))) | exact (.tail (.tail (.tail (.tail (.tail (.tail (.tail (.tail (.tail (.tail (.tail (.tail (.tail .head)))))))))))))) (by rfl)) ?_
  refine GL_nil ?_
  (repeat (first | (with_reducible refine R_seq ?_) | (with_reducible refine R_block_normal ?_)))
  (repeat (with_reducible refine G_seq ?_))
  refine G_region ?_
  refine GL_y rfl rfl (Y_move rfl) ?_
  refine GL_y rfl rfl (Y_slS (vl := some _) (vh := some _) (kl := 8) (kh := 12) sl25 rfl rfl rfl ⟨_, rfl⟩ ⟨_, rfl⟩ (by omega) (by omega) hc) ?_
  refine GL_call rfl rfl rfl rfl Try.call26 .nil (fun w hw => number_is (bs := (bs.drop 8).take 4) ((subB (lo := 8) hs hc 4).keep hw (by simp)) (by rw [List.length_take, List.length_drop]; omega) (by rw [List.length_take, List.length_drop]; omega)) ?_
  rintro _ _ ⟨rfl, rfl⟩
  rw [show numAt ((bs.drop 8).take 4) 0 = numAt bs 8 from numAt_take (l := bs) (p := 8) (n := 4) (i := 0) (by decide)]
  refine GL_y rfl rfl (Y_field fd24_1 rfl) ?_
  refine GL_s rfl (S_sc rfl sc3 rfl rfl (by first | exact .head | exact (.tail .head) | exact (.tail (.tail .head)) | exact (.tail (.tail (.tail .head))) | exact (.tail (.tail (.tail (.tail .head)))) | exact (.tail (.tail (.tail (.tail (.tail .head))))) | exact (.tail (.tail (.tail (.tail (.tail (.tail .head)))))) | exact (.tail (.tail (.tail (.tail (.tail (.tail (.tail .head))))))) | exact (.tail (.tail (.tail (.tail (.tail (.tail (.tail (.tail .head)))))))) | exact (.tail (.tail (.tail (.tail (.tail (.tail (.tail (.tail (.tail .head))))))))) | exact (.tail (.tail (.tail (.tail (.tail (.tail (.tail (.tail (.tail (.tail .head)))))))))) | exact (.tail (.tail (.tail (.tail (.tail (.tail (.tail (.tail (.tail (.tail (.tail .head))))))))))) | exact (.tail (.tail (.tail (.tail (.tail (.tail (.tail (.tail (.tail (.tail (.tail (.tail .head)))))))))))) | exact (.tail (.tail (.tail (.tail (.tail (.tail (.tail (.tail (.tail (.tail (.tail (.tail (.tail .head)))))))))))))) (by rfl)) ?_
  refine GL_nil ?_
  (repeat (first | (with_reducible refine R_seq ?_) | (with_reducible refine R_block_normal ?_)))
  (repeat (with_reducible refine G_seq ?_))
  refine G_region ?_
  refine GL_y rfl rfl (Y_move rfl) ?_
  refine GL_y rfl rfl (Y_slS (vl := some _) (vh := some _) (kl := 12) (kh := 16) sl25 rfl rfl rfl ⟨_, rfl⟩ ⟨_, rfl⟩ (by omega) (by omega) hc) ?_
  refine GL_call rfl rfl rfl rfl Try.call26 .nil (fun w hw => number_is (bs := (bs.drop 12).take 4) ((subB (lo := 12) hs hc 4).keep hw (by simp)) (by rw [List.length_take, List.length_drop]; omega) (by rw [List.length_take, List.length_drop]; omega)) ?_
  rintro _ _ ⟨rfl, rfl⟩
  rw [show numAt ((bs.drop 12).take 4) 0 = numAt bs 12 from numAt_take (l := bs) (p := 12) (n := 4) (i := 0) (by decide)]
  refine GL_y rfl rfl (Y_field fd24_2 rfl) ?_
  refine GL_s rfl (S_sc rfl sc3 rfl rfl (by first | exact .head | exact (.tail .head) | exact (.tail (.tail .head)) | exact (.tail (.tail (.tail .head))) | exact (.tail (.tail (.tail (.tail .head)))) | exact (.tail (.tail (.tail (.tail (.tail .head))))) | exact (.tail (.tail (.tail (.tail (.tail (.tail .head)))))) | exact (.tail (.tail (.tail (.tail (.tail (.tail (.tail .head))))))) | exact (.tail (.tail (.tail (.tail (.tail (.tail (.tail (.tail .head)))))))) | exact (.tail (.tail (.tail (.tail (.tail (.tail (.tail (.tail (.tail .head))))))))) | exact (.tail (.tail (.tail (.tail (.tail (.tail (.tail (.tail (.tail (.tail .head)))))))))) | exact (.tail (.tail (.tail (.tail (.tail (.tail (.tail (.tail (.tail (.tail (.tail .head))))))))))) | exact (.tail (.tail (.tail (.tail (.tail (.tail (.tail (.tail (.tail (.tail (.tail (.tail .head)))))))))))) | exact (.tail (.tail (.tail (.tail (.tail (.tail (.tail (.tail (.tail (.tail (.tail (.tail (.tail .head)))))))))))))) (by rfl)) ?_
  refine GL_nil ?_
  (repeat (first | (with_reducible refine R_seq ?_) | (with_reducible refine R_block_normal ?_)))
  (repeat (with_reducible refine G_seq ?_))
  refine G_region ?_
  refine GL_y rfl rfl (Y_move rfl) ?_
  refine GL_y rfl rfl (Y_slS (vl := some _) (vh := some _) (kl := 16) (kh := 20) sl25 rfl rfl rfl ⟨_, rfl⟩ ⟨_, rfl⟩ (by omega) (by omega) hc) ?_
  refine GL_call rfl rfl rfl rfl Try.call26 .nil (fun w hw => number_is (bs := (bs.drop 16).take 4) ((subB (lo := 16) hs hc 4).keep hw (by simp)) (by rw [List.length_take, List.length_drop]; omega) (by rw [List.length_take, List.length_drop]; omega)) ?_
  rintro _ _ ⟨rfl, rfl⟩
  rw [show numAt ((bs.drop 16).take 4) 0 = numAt bs 16 from numAt_take (l := bs) (p := 16) (n := 4) (i := 0) (by decide)]
  refine GL_y rfl rfl (Y_field fd24_3 rfl) ?_
  refine GL_s rfl (S_sc rfl sc3 rfl rfl (by first | exact .head | exact (.tail .head) | exact (.tail (.tail .head)) | exact (.tail (.tail (.tail .head))) | exact (.tail (.tail (.tail (.tail .head)))) | exact (.tail (.tail (.tail (.tail (.tail .head))))) | exact (.tail (.tail (.tail (.tail (.tail (.tail .head)))))) | exact (.tail (.tail (.tail (.tail (.tail (.tail (.tail .head))))))) | exact (.tail (.tail (.tail (.tail (.tail (.tail (.tail (.tail .head)))))))) | exact (.tail (.tail (.tail (.tail (.tail (.tail (.tail (.tail (.tail .head))))))))) | exact (.tail (.tail (.tail (.tail (.tail (.tail (.tail (.tail (.tail (.tail .head)))))))))) | exact (.tail (.tail (.tail (.tail (.tail (.tail (.tail (.tail (.tail (.tail (.tail .head))))))))))) | exact (.tail (.tail (.tail (.tail (.tail (.tail (.tail (.tail (.tail (.tail (.tail (.tail .head)))))))))))) | exact (.tail (.tail (.tail (.tail (.tail (.tail (.tail (.tail (.tail (.tail (.tail (.tail (.tail .head)))))))))))))) (by rfl)) ?_
  refine GL_nil ?_
  (repeat (first | (with_reducible refine R_seq ?_) | (with_reducible refine R_block_normal ?_)))
  (repeat (with_reducible refine G_seq ?_))
  refine G_region ?_
  refine GL_y rfl rfl (Y_move rfl) ?_
  refine GL_y rfl rfl (Y_slS (vl := some _) (vh := some _) (kl := 20) (kh := 24) sl25 rfl rfl rfl ⟨_, rfl⟩ ⟨_, rfl⟩ (by omega) (by omega) hc) ?_
  refine GL_call rfl rfl rfl rfl Try.call26 .nil (fun w hw => number_is (bs := (bs.drop 20).take 4) ((subB (lo := 20) hs hc 4).keep hw (by simp)) (by rw [List.length_take, List.length_drop]; omega) (by rw [List.length_take, List.length_drop]; omega)) ?_
  rintro _ _ ⟨rfl, rfl⟩
  rw [show numAt ((bs.drop 20).take 4) 0 = numAt bs 20 from numAt_take (l := bs) (p := 20) (n := 4) (i := 0) (by decide)]
  refine GL_y rfl rfl (Y_assign rfl) ?_
  refine GL_nil ?_
  (repeat (first | (with_reducible refine R_seq ?_) | (with_reducible refine R_block_normal ?_)))
  (repeat (with_reducible refine G_seq ?_))
  refine G_region ?_
  refine GL_y rfl rfl (Y_move rfl) ?_
  refine GL_y rfl rfl (Y_gtrN (b := 8) rfl rfl) ?_
  refine GL_y rfl rfl (Y_move rfl) ?_
  refine GL_bool 35 rfl (fun g35 => ?_) (fun g35 => ?_)
  · -- g35 True
    refine GL_skip rfl rfl ?_
    refine GL_skip rfl rfl ?_
    refine GL_skip rfl rfl ?_
    refine GL_skip rfl rfl ?_
    refine GL_skip rfl rfl ?_
    refine GL_skip rfl rfl ?_
    refine GL_y rfl rfl (Y_pick rfl rfl rfl rfl) ?_
    refine GL_nil ?_
    (repeat (first | (with_reducible refine R_seq ?_) | (with_reducible refine R_block_normal ?_)))
    (repeat (with_reducible refine G_seq ?_))
    refine G_cond_t rfl (by first | rfl | decide | (simp; done) | (simp; omega)) ?_
    (repeat (with_reducible refine G_seq ?_))
    refine G_region ?_
    refine GL_y rfl rfl (Y_build (vs := []) rfl build24) ?_
    refine GL_s rfl (S_all rfl rfl ag24 (by rfl) (by rfl) (by first | exact .head | exact (.tail .head) | exact (.tail (.tail .head)) | exact (.tail (.tail (.tail .head))) | exact (.tail (.tail (.tail (.tail .head)))) | exact (.tail (.tail (.tail (.tail (.tail .head))))) | exact (.tail (.tail (.tail (.tail (.tail (.tail .head)))))) | exact (.tail (.tail (.tail (.tail (.tail (.tail (.tail .head))))))) | exact (.tail (.tail (.tail (.tail (.tail (.tail (.tail (.tail .head)))))))) | exact (.tail (.tail (.tail (.tail (.tail (.tail (.tail (.tail (.tail .head))))))))) | exact (.tail (.tail (.tail (.tail (.tail (.tail (.tail (.tail (.tail (.tail .head)))))))))) | exact (.tail (.tail (.tail (.tail (.tail (.tail (.tail (.tail (.tail (.tail (.tail .head))))))))))) | exact (.tail (.tail (.tail (.tail (.tail (.tail (.tail (.tail (.tail (.tail (.tail (.tail .head)))))))))))) | exact (.tail (.tail (.tail (.tail (.tail (.tail (.tail (.tail (.tail (.tail (.tail (.tail (.tail .head)))))))))))))) (by rfl)) ?_
    refine GL_y rfl rfl (Y_assign rfl) ?_
    refine GL_nil ?_
    (repeat (first | (with_reducible refine R_seq ?_) | (with_reducible refine R_block_normal ?_)))
    (repeat (with_reducible refine G_seq ?_))
    refine G_ret ?_
    (repeat (first | (with_reducible refine R_then_ret ?_) | (with_reducible refine R_block_ret ?_)))
    exact R_ret (.ag rfl (by first | exact .head _ | exact .tail _ (.head _) | exact .tail _ (.tail _ (.head _)) | exact .tail _ (.tail _ (.tail _ (.head _))) | exact .tail _ (.tail _ (.tail _ (.tail _ (.head _)))) | exact .tail _ (.tail _ (.tail _ (.tail _ (.tail _ (.head _))))) | exact .tail _ (.tail _ (.tail _ (.tail _ (.tail _ (.tail _ (.head _)))))) | exact .tail _ (.tail _ (.tail _ (.tail _ (.tail _ (.tail _ (.tail _ (.head _))))))) | exact .tail _ (.tail _ (.tail _ (.tail _ (.tail _ (.tail _ (.tail _ (.tail _ (.head _)))))))) | exact .tail _ (.tail _ (.tail _ (.tail _ (.tail _ (.tail _ (.tail _ (.tail _ (.tail _ (.head _))))))))) | exact .tail _ (.tail _ (.tail _ (.tail _ (.tail _ (.tail _ (.tail _ (.tail _ (.tail _ (.tail _ (.head _)))))))))) | exact .tail _ (.tail _ (.tail _ (.tail _ (.tail _ (.tail _ (.tail _ (.tail _ (.tail _ (.tail _ (.tail _ (.head _))))))))))) | exact .tail _ (.tail _ (.tail _ (.tail _ (.tail _ (.tail _ (.tail _ (.tail _ (.tail _ (.tail _ (.tail _ (.tail _ (.head _)))))))))))) | exact .tail _ (.tail _ (.tail _ (.tail _ (.tail _ (.tail _ (.tail _ (.tail _ (.tail _ (.tail _ (.tail _ (.tail _ (.tail _ (.head _)))))))))))))) (by exact ag24) (.tmp rfl .nil)) [] .nil ⟨rfl, rfl⟩
  · -- g35 False
    refine GL_y rfl rfl (Y_move rfl) ?_
    refine GL_y rfl rfl (Y_len sl25 rfl) ?_
    refine GL_y rfl rfl (Y_move rfl) ?_
    refine GL_y rfl rfl (Y_mulN (a := 40) rfl rfl (by omega)) ?_
    refine GL_y rfl rfl (Y_addN (a := 24) rfl rfl (by omega)) ?_
    refine GL_y rfl rfl (Y_neqN rfl rfl) ?_
    refine GL_y rfl rfl (Y_pick rfl rfl rfl rfl) ?_
    refine GL_nil ?_
    (repeat (first | (with_reducible refine R_seq ?_) | (with_reducible refine R_block_normal ?_)))
    (repeat (with_reducible refine G_seq ?_))
    refine G_cond_t rfl (by simp; simp at g35; omega) ?_
    (repeat (with_reducible refine G_seq ?_))
    refine G_region ?_
    refine GL_y rfl rfl (Y_build (vs := []) rfl build24) ?_
    refine GL_s rfl (S_all rfl rfl ag24 (by rfl) (by rfl) (by first | exact .head | exact (.tail .head) | exact (.tail (.tail .head)) | exact (.tail (.tail (.tail .head))) | exact (.tail (.tail (.tail (.tail .head)))) | exact (.tail (.tail (.tail (.tail (.tail .head))))) | exact (.tail (.tail (.tail (.tail (.tail (.tail .head)))))) | exact (.tail (.tail (.tail (.tail (.tail (.tail (.tail .head))))))) | exact (.tail (.tail (.tail (.tail (.tail (.tail (.tail (.tail .head)))))))) | exact (.tail (.tail (.tail (.tail (.tail (.tail (.tail (.tail (.tail .head))))))))) | exact (.tail (.tail (.tail (.tail (.tail (.tail (.tail (.tail (.tail (.tail .head)))))))))) | exact (.tail (.tail (.tail (.tail (.tail (.tail (.tail (.tail (.tail (.tail (.tail .head))))))))))) | exact (.tail (.tail (.tail (.tail (.tail (.tail (.tail (.tail (.tail (.tail (.tail (.tail .head)))))))))))) | exact (.tail (.tail (.tail (.tail (.tail (.tail (.tail (.tail (.tail (.tail (.tail (.tail (.tail .head)))))))))))))) (by rfl)) ?_
    refine GL_y rfl rfl (Y_assign rfl) ?_
    refine GL_nil ?_
    (repeat (first | (with_reducible refine R_seq ?_) | (with_reducible refine R_block_normal ?_)))
    (repeat (with_reducible refine G_seq ?_))
    refine G_ret ?_
    (repeat (first | (with_reducible refine R_then_ret ?_) | (with_reducible refine R_block_ret ?_)))
    exact R_ret (.ag rfl (by first | exact .head _ | exact .tail _ (.head _) | exact .tail _ (.tail _ (.head _)) | exact .tail _ (.tail _ (.tail _ (.head _))) | exact .tail _ (.tail _ (.tail _ (.tail _ (.head _)))) | exact .tail _ (.tail _ (.tail _ (.tail _ (.tail _ (.head _))))) | exact .tail _ (.tail _ (.tail _ (.tail _ (.tail _ (.tail _ (.head _)))))) | exact .tail _ (.tail _ (.tail _ (.tail _ (.tail _ (.tail _ (.tail _ (.head _))))))) | exact .tail _ (.tail _ (.tail _ (.tail _ (.tail _ (.tail _ (.tail _ (.tail _ (.head _)))))))) | exact .tail _ (.tail _ (.tail _ (.tail _ (.tail _ (.tail _ (.tail _ (.tail _ (.tail _ (.head _))))))))) | exact .tail _ (.tail _ (.tail _ (.tail _ (.tail _ (.tail _ (.tail _ (.tail _ (.tail _ (.tail _ (.head _)))))))))) | exact .tail _ (.tail _ (.tail _ (.tail _ (.tail _ (.tail _ (.tail _ (.tail _ (.tail _ (.tail _ (.tail _ (.head _))))))))))) | exact .tail _ (.tail _ (.tail _ (.tail _ (.tail _ (.tail _ (.tail _ (.tail _ (.tail _ (.tail _ (.tail _ (.tail _ (.head _)))))))))))) | exact .tail _ (.tail _ (.tail _ (.tail _ (.tail _ (.tail _ (.tail _ (.tail _ (.tail _ (.tail _ (.tail _ (.tail _ (.tail _ (.head _)))))))))))))) (by exact ag24) (.tmp rfl .nil)) [] .nil ⟨rfl, rfl⟩
set_option maxHeartbeats 4000000 in
theorem refp_bad {ao : Option Addr} {c : Nat} {bs : List UInt8} {w : World} (hs : SlAt w ao (B bs)) (hc : bs.length ≤ c) (h24 : 24 ≤ bs.length) (h8 : numAt bs 20 ≤ 8) (hl : bs.length = 24 + 40 * numAt bs 20) (hm : mayM (parseD bs) = false) : FnAt Try.prog 13 [.slice ao bs.length c] [] w (Ret fun v N => v = .tuple #[.agg (manL zeroM none 0).toArray, .bool false] ∧ N = []) := by
  refine FnAt.intro Try.func13 rfl Try.ntmps13 rfl _ rfl ?_
  (repeat (with_reducible refine G_seq ?_))
  refine G_region ?_
  refine GL_w rfl rfl (W_alloc zr24 fun b2 => ?_)
  refine GL_y rfl rfl (Y_assign rfl) ?_
  refine GL_nil ?_
  (repeat (first | (with_reducible refine R_seq ?_) | (with_reducible refine R_block_normal ?_)))
  (repeat (with_reducible refine G_seq ?_))
  refine G_region ?_
  refine GL_w rfl rfl (W_alloc zr24 fun b4 => ?_)
  refine GL_nil ?_
  (repeat (first | (with_reducible refine R_seq ?_) | (with_reducible refine R_block_normal ?_)))
  (repeat (with_reducible refine G_seq ?_))
  refine G_region ?_
  refine GL_y rfl rfl (Y_move rfl) ?_
  refine GL_y rfl rfl (Y_len sl25 rfl) ?_
  refine GL_y rfl rfl (Y_lssN (b := 24) rfl rfl) ?_
  refine GL_nil ?_
  (repeat (first | (with_reducible refine R_seq ?_) | (with_reducible refine R_block_normal ?_)))
  (repeat (with_reducible refine G_seq ?_))
  refine G_cond_f rfl (by simp; omega) ?_
  (repeat (with_reducible refine G_seq ?_))
  refine G_skip ?_
  (repeat (first | (with_reducible refine R_seq ?_) | (with_reducible refine R_block_normal ?_)))
  (repeat (with_reducible refine G_seq ?_))
  refine G_region ?_
  refine GL_y rfl rfl (Y_move rfl) ?_
  refine GL_y rfl rfl (Y_slS (vl := some _) (vh := some _) (kl := 4) (kh := 8) sl25 rfl rfl rfl ⟨_, rfl⟩ ⟨_, rfl⟩ (by omega) (by omega) hc) ?_
  refine GL_call rfl rfl rfl rfl Try.call26 .nil (fun w hw => number_is (bs := (bs.drop 4).take 4) ((subB (lo := 4) hs hc 4).keep hw (by simp)) (by rw [List.length_take, List.length_drop]; omega) (by rw [List.length_take, List.length_drop]; omega)) ?_
  rintro _ _ ⟨rfl, rfl⟩
  rw [show numAt ((bs.drop 4).take 4) 0 = numAt bs 4 from numAt_take (l := bs) (p := 4) (n := 4) (i := 0) (by decide)]
  refine GL_y rfl rfl (Y_field fd24_0 rfl) ?_
  refine GL_s rfl (S_sc rfl sc3 rfl rfl (by first | exact .head | exact (.tail .head) | exact (.tail (.tail .head)) | exact (.tail (.tail (.tail .head))) | exact (.tail (.tail (.tail (.tail .head)))) | exact (.tail (.tail (.tail (.tail (.tail .head))))) | exact (.tail (.tail (.tail (.tail (.tail (.tail .head)))))) | exact (.tail (.tail (.tail (.tail (.tail (.tail (.tail .head))))))) | exact (.tail (.tail (.tail (.tail (.tail (.tail (.tail (.tail .head)))))))) | exact (.tail (.tail (.tail (.tail (.tail (.tail (.tail (.tail (.tail .head))))))))) | exact (.tail (.tail (.tail (.tail (.tail (.tail (.tail (.tail (.tail (.tail .head)))))))))) | exact (.tail (.tail (.tail (.tail (.tail (.tail (.tail (.tail (.tail (.tail (.tail .head))))))))))) | exact (.tail (.tail (.tail (.tail (.tail (.tail (.tail (.tail (.tail (.tail (.tail (.tail .head)))))))))))) | exact (.tail (.tail (.tail (.tail (.tail (.tail (.tail (.tail (.tail (.tail (.tail (.tail (.tail .head)))))))))))))) (by rfl)) ?_
  refine GL_nil ?_
  (repeat (first | (with_reducible refine R_seq ?_) | (with_reducible refine R_block_normal ?_)))
  (repeat (with_reducible refine G_seq ?_))
  refine G_region ?_
  refine GL_y rfl rfl (Y_move rfl) ?_
  refine GL_y rfl rfl (Y_slS (vl := some _) (vh := some _) (kl := 8) (kh := 12) sl25 rfl rfl rfl ⟨_, rfl⟩ ⟨_, rfl⟩ (by omega) (by omega) hc) ?_
  refine GL_call rfl rfl rfl rfl Try.call26 .nil (fun w hw => number_is (bs := (bs.drop 8).take 4) ((subB (lo := 8) hs hc 4).keep hw (by simp)) (by rw [List.length_take, List.length_drop]; omega) (by rw [List.length_take, List.length_drop]; omega)) ?_
  rintro _ _ ⟨rfl, rfl⟩
  rw [show numAt ((bs.drop 8).take 4) 0 = numAt bs 8 from numAt_take (l := bs) (p := 8) (n := 4) (i := 0) (by decide)]
  refine GL_y rfl rfl (Y_field fd24_1 rfl) ?_
  refine GL_s rfl (S_sc rfl sc3 rfl rfl (by first | exact .head | exact (.tail .head) | exact (.tail (.tail .head)) | exact (.tail (.tail (.tail .head))) | exact (.tail (.tail (.tail (.tail .head)))) | exact (.tail (.tail (.tail (.tail (.tail .head))))) | exact (.tail (.tail (.tail (.tail (.tail (.tail .head)))))) | exact (.tail (.tail (.tail (.tail (.tail (.tail (.tail .head))))))) | exact (.tail (.tail (.tail (.tail (.tail (.tail (.tail (.tail .head)))))))) | exact (.tail (.tail (.tail (.tail (.tail (.tail (.tail (.tail (.tail .head))))))))) | exact (.tail (.tail (.tail (.tail (.tail (.tail (.tail (.tail (.tail (.tail .head)))))))))) | exact (.tail (.tail (.tail (.tail (.tail (.tail (.tail (.tail (.tail (.tail (.tail .head))))))))))) | exact (.tail (.tail (.tail (.tail (.tail (.tail (.tail (.tail (.tail (.tail (.tail (.tail .head)))))))))))) | exact (.tail (.tail (.tail (.tail (.tail (.tail (.tail (.tail (.tail (.tail (.tail (.tail (.tail .head)))))))))))))) (by rfl)) ?_
  refine GL_nil ?_
  (repeat (first | (with_reducible refine R_seq ?_) | (with_reducible refine R_block_normal ?_)))
  (repeat (with_reducible refine G_seq ?_))
  refine G_region ?_
  refine GL_y rfl rfl (Y_move rfl) ?_
  refine GL_y rfl rfl (Y_slS (vl := some _) (vh := some _) (kl := 12) (kh := 16) sl25 rfl rfl rfl ⟨_, rfl⟩ ⟨_, rfl⟩ (by omega) (by omega) hc) ?_
  refine GL_call rfl rfl rfl rfl Try.call26 .nil (fun w hw => number_is (bs := (bs.drop 12).take 4) ((subB (lo := 12) hs hc 4).keep hw (by simp)) (by rw [List.length_take, List.length_drop]; omega) (by rw [List.length_take, List.length_drop]; omega)) ?_
  rintro _ _ ⟨rfl, rfl⟩
  rw [show numAt ((bs.drop 12).take 4) 0 = numAt bs 12 from numAt_take (l := bs) (p := 12) (n := 4) (i := 0) (by decide)]
  refine GL_y rfl rfl (Y_field fd24_2 rfl) ?_
  refine GL_s rfl (S_sc rfl sc3 rfl rfl (by first | exact .head | exact (.tail .head) | exact (.tail (.tail .head)) | exact (.tail (.tail (.tail .head))) | exact (.tail (.tail (.tail (.tail .head)))) | exact (.tail (.tail (.tail (.tail (.tail .head))))) | exact (.tail (.tail (.tail (.tail (.tail (.tail .head)))))) | exact (.tail (.tail (.tail (.tail (.tail (.tail (.tail .head))))))) | exact (.tail (.tail (.tail (.tail (.tail (.tail (.tail (.tail .head)))))))) | exact (.tail (.tail (.tail (.tail (.tail (.tail (.tail (.tail (.tail .head))))))))) | exact (.tail (.tail (.tail (.tail (.tail (.tail (.tail (.tail (.tail (.tail .head)))))))))) | exact (.tail (.tail (.tail (.tail (.tail (.tail (.tail (.tail (.tail (.tail (.tail .head))))))))))) | exact (.tail (.tail (.tail (.tail (.tail (.tail (.tail (.tail (.tail (.tail (.tail (.tail .head)))))))))))) | exact (.tail (.tail (.tail (.tail (.tail (.tail (.tail (.tail (.tail (.tail (.tail (.tail (.tail .head)))))))))))))) (by rfl)) ?_
  refine GL_nil ?_
  (repeat (first | (with_reducible refine R_seq ?_) | (with_reducible refine R_block_normal ?_)))
  (repeat (with_reducible refine G_seq ?_))
  refine G_region ?_
  refine GL_y rfl rfl (Y_move rfl) ?_
  refine GL_y rfl rfl (Y_slS (vl := some _) (vh := some _) (kl := 16) (kh := 20) sl25 rfl rfl rfl ⟨_, rfl⟩ ⟨_, rfl⟩ (by omega) (by omega) hc) ?_
  refine GL_call rfl rfl rfl rfl Try.call26 .nil (fun w hw => number_is (bs := (bs.drop 16).take 4) ((subB (lo := 16) hs hc 4).keep hw (by simp)) (by rw [List.length_take, List.length_drop]; omega) (by rw [List.length_take, List.length_drop]; omega)) ?_
  rintro _ _ ⟨rfl, rfl⟩
  rw [show numAt ((bs.drop 16).take 4) 0 = numAt bs 16 from numAt_take (l := bs) (p := 16) (n := 4) (i := 0) (by decide)]
  refine GL_y rfl rfl (Y_field fd24_3 rfl) ?_
  refine GL_s rfl (S_sc rfl sc3 rfl rfl (by first | exact .head | exact (.tail .head) | exact (.tail (.tail .head)) | exact (.tail (.tail (.tail .head))) | exact (.tail (.tail (.tail (.tail .head)))) | exact (.tail (.tail (.tail (.tail (.tail .head))))) | exact (.tail (.tail (.tail (.tail (.tail (.tail .head)))))) | exact (.tail (.tail (.tail (.tail (.tail (.tail (.tail .head))))))) | exact (.tail (.tail (.tail (.tail (.tail (.tail (.tail (.tail .head)))))))) | exact (.tail (.tail (.tail (.tail (.tail (.tail (.tail (.tail (.tail .head))))))))) | exact (.tail (.tail (.tail (.tail (.tail (.tail (.tail (.tail (.tail (.tail .head)))))))))) | exact (.tail (.tail (.tail (.tail (.tail (.tail (.tail (.tail (.tail (.tail (.tail .head))))))))))) | exact (.tail (.tail (.tail (.tail (.tail (.tail (.tail (.tail (.tail (.tail (.tail (.tail .head)))))))))))) | exact (.tail (.tail (.tail (.tail (.tail (.tail (.tail (.tail (.tail (.tail (.tail (.tail (.tail .head)))))))))))))) (by rfl)) ?_
  refine GL_nil ?_
  (repeat (first | (with_reducible refine R_seq ?_) | (with_reducible refine R_block_normal ?_)))
  (repeat (with_reducible refine G_seq ?_))
  refine G_region ?_
  refine GL_y rfl rfl (Y_move rfl) ?_
  refine GL_y rfl rfl (Y_slS (vl := some _) (vh := some _) (kl := 20) (kh := 24) sl25 rfl rfl rfl ⟨_, rfl⟩ ⟨_, rfl⟩ (by omega) (by omega) hc) ?_
  refine GL_call rfl rfl rfl rfl Try.call26 .nil (fun w hw => number_is (bs := (bs.drop 20).take 4) ((subB (lo := 20) hs hc 4).keep hw (by simp)) (by rw [List.length_take, List.length_drop]; omega) (by rw [List.length_take, List.length_drop]; omega)) ?_
  rintro _ _ ⟨rfl, rfl⟩
  rw [show numAt ((bs.drop 20).take 4) 0 = numAt bs 20 from numAt_take (l := bs) (p := 20) (n := 4) (i := 0) (by decide)]
  refine GL_y rfl rfl (Y_assign rfl) ?_
  refine GL_nil ?_
  (repeat (first | (with_reducible refine R_seq ?_) | (with_reducible refine R_block_normal ?_)))
  (repeat (with_reducible refine G_seq ?_))
  refine G_region ?_
  refine GL_y rfl rfl (Y_move rfl) ?_
  refine GL_y rfl rfl (Y_gtrN (b := 8) rfl rfl) ?_
  refine GL_y rfl rfl (Y_move rfl) ?_
  refine GL_bool 35 rfl (fun g35 => ?_) (fun g35 => ?_)
  · -- g35 True
    exact absurd g35 (by simp; omega)
  · -- g35 False
    refine GL_y rfl rfl (Y_move rfl) ?_
    refine GL_y rfl rfl (Y_len sl25 rfl) ?_
    refine GL_y rfl rfl (Y_move rfl) ?_
    refine GL_y rfl rfl (Y_mulN (a := 40) rfl rfl (by omega)) ?_
    refine GL_y rfl rfl (Y_addN (a := 24) rfl rfl (by omega)) ?_
    refine GL_y rfl rfl (Y_neqN rfl rfl) ?_
    refine GL_y rfl rfl (Y_pick rfl rfl rfl rfl) ?_
    refine GL_nil ?_
    (repeat (first | (with_reducible refine R_seq ?_) | (with_reducible refine R_block_normal ?_)))
    (repeat (with_reducible refine G_seq ?_))
    refine G_cond_f rfl (by simp; omega) ?_
    (repeat (with_reducible refine G_seq ?_))
    refine G_skip ?_
    (repeat (first | (with_reducible refine R_seq ?_) | (with_reducible refine R_block_normal ?_)))
    (repeat (with_reducible refine G_seq ?_))
    refine G_region ?_
    refine GL_y rfl rfl (Y_assign rfl) ?_
    refine GL_nil ?_
    (repeat (first | (with_reducible refine R_seq ?_) | (with_reducible refine R_block_normal ?_)))
    (repeat (with_reducible refine G_seq ?_))
    refine G_block ?_
    (repeat (with_reducible refine G_seq ?_))
    refine G_loop (ι := RI) (fun i => numAt bs 20 - i.j) (fun i => i.j ≤ numAt bs 20 ∧ OwnR segL 47 34 i.NS i.sa i.sc (segsAt bs i.j)) (fun i => [(0, .slice ao bs.length c), (2, .pointer (some ⟨b2, 0, none⟩)), (3, .bool false), (4, .pointer (some ⟨b4, 0, none⟩)), (5, .int .i64 (numAt bs 20 : Nat)), (6, .int .i64 (i.j : Int))]) (fun i => ⟨b4, 24, 5, [Value.int .i64 (numAt bs 4 : Nat), .int .i64 (numAt bs 8 : Nat), .int .i64 (numAt bs 12 : Nat), .int .i64 (numAt bs 16 : Nat), .slice i.sa i.j i.sc], (0, 0)⟩ :: ⟨b2, 24, 5, [.int .i64 0, .int .i64 0, .int .i64 0, .int .i64 0, .slice none 0 0], (0, 0)⟩ :: i.NS) ⟨0, [], none, 0⟩ ?_ (⟨by first | rfl | decide, by first | rfl | decide, by first | rfl | decide, by first | rfl | decide, by first | rfl | decide, by first | rfl | decide, trivial⟩) (by repeat (first | exact .nil | exact Pick.rfl' _ | exact Pick.skip (Pick.rfl' _) | exact Pick.skip (Pick.skip (Pick.rfl' _)) | (apply Pick.cons; focus (first | exact .head | exact (.tail .head) | exact (.tail (.tail .head)) | exact (.tail (.tail (.tail .head))) | exact (.tail (.tail (.tail (.tail .head)))) | exact (.tail (.tail (.tail (.tail (.tail .head))))) | exact (.tail (.tail (.tail (.tail (.tail (.tail .head)))))) | exact (.tail (.tail (.tail (.tail (.tail (.tail (.tail .head))))))) | exact (.tail (.tail (.tail (.tail (.tail (.tail (.tail (.tail .head)))))))) | exact (.tail (.tail (.tail (.tail (.tail (.tail (.tail (.tail (.tail .head))))))))) | exact (.tail (.tail (.tail (.tail (.tail (.tail (.tail (.tail (.tail (.tail .head)))))))))) | exact (.tail (.tail (.tail (.tail (.tail (.tail (.tail (.tail (.tail (.tail (.tail .head))))))))))) | exact (.tail (.tail (.tail (.tail (.tail (.tail (.tail (.tail (.tail (.tail (.tail (.tail .head)))))))))))) | exact (.tail (.tail (.tail (.tail (.tail (.tail (.tail (.tail (.tail (.tail (.tail (.tail (.tail .head))))))))))))))))) ?_
    · exact ⟨by simp, .inl ⟨rfl, rfl, rfl, rfl⟩⟩
    intro i ⟨hi, hO⟩
    (repeat (with_reducible refine G_seq ?_))
    refine G_region ?_
    refine GL_y rfl rfl (Y_move rfl) ?_
    refine GL_y rfl rfl (Y_move rfl) ?_
    refine GL_y rfl rfl (Y_lssN rfl rfl) ?_
    refine GL_nil ?_
    (repeat (first | (with_reducible refine R_seq ?_) | (with_reducible refine R_block_normal ?_)))
    (repeat (with_reducible refine G_seq ?_))
    refine G_cond_dec rfl (fun ht46 => ?_) (fun ht46 => ?_)
    · -- yes
      (repeat (with_reducible refine G_seq ?_))
      refine G_skip ?_
      (repeat (first | (with_reducible refine R_seq ?_) | (with_reducible refine R_block_normal ?_)))
      (repeat (with_reducible refine G_seq ?_))
      refine G_block ?_
      have hx := subB (lo := 24 + 40 * i.j) hs hc 40
      have hxc : ((bs.drop (24 + 40 * i.j)).take 40).length ≤ c - (24 + 40 * i.j) := by simp only [List.length_take, List.length_drop]; omega
      (repeat (with_reducible refine G_seq ?_))
      refine G_region ?_
      refine GL_y rfl rfl (Y_move rfl) ?_
      refine GL_y rfl rfl (Y_move rfl) ?_
      refine GL_y rfl rfl (Y_mulN (a := 40) rfl rfl (by omega)) ?_
      refine GL_y rfl rfl (Y_addN (a := 24) rfl rfl (by omega)) ?_
      refine GL_y rfl rfl (Y_move rfl) ?_
      refine GL_y rfl rfl (Y_mulN (a := 40) rfl rfl (by omega)) ?_
      refine GL_y rfl rfl (Y_addN (a := 64) rfl rfl (by omega)) ?_
      refine GL_y rfl rfl (Y_slS (vl := some _) (vh := some _) (kl := 24 + 40 * i.j) (kh := 64 + 40 * i.j) sl25 rfl rfl rfl ⟨_, rfl⟩ ⟨_, rfl⟩ (by omega) (by omega) hc) ?_
      refine GL_y rfl rfl (Y_assign rfl) ?_
      refine GL_nil ?_
      (repeat (first | (with_reducible refine R_seq ?_) | (with_reducible refine R_block_normal ?_)))
      (repeat (with_reducible refine G_seq ?_))
      refine G_draw [8] 9 rfl (by kernel_rfl) ?_
      refine GA_y 0 rfl (by kernel_rfl) (by kernel_rfl) (by kernel_rfl) (fun _ _ _ h => h) rfl rfl rfl (Y_move rfl) ?_
      refine GA_y 1 rfl (by kernel_rfl) (by kernel_rfl) (by kernel_rfl) (fun _ _ _ h => h) rfl rfl rfl (Y_slS (ao := (subA ao c (24 + 40 * i.j) 1)) (l := 64 + 40 * i.j - (24 + 40 * i.j)) (c := c - (24 + 40 * i.j)) (vl := some _) (vh := some _) (kl := 0) (kh := 4) sl25 rfl rfl rfl ⟨_, rfl⟩ ⟨_, rfl⟩ (by decide) (by omega) (by omega)) ?_
      refine GA_y 3 rfl (by kernel_rfl) (by kernel_rfl) (by kernel_rfl) (fun _ _ _ h => h) rfl rfl rfl (Y_move rfl) ?_
      refine GA_y 4 rfl (by kernel_rfl) (by kernel_rfl) (by kernel_rfl) (fun _ _ _ h => h) rfl rfl rfl (Y_slS (ao := (subA ao c (24 + 40 * i.j) 1)) (l := 64 + 40 * i.j - (24 + 40 * i.j)) (c := c - (24 + 40 * i.j)) (vl := some _) (vh := some _) (kl := 4) (kh := 8) sl25 rfl rfl rfl ⟨_, rfl⟩ ⟨_, rfl⟩ (by decide) (by omega) (by omega)) ?_
      refine GA_all [2, 7] (by kernel_rfl) rfl ⟨?_, ?_, trivial⟩
      · -- 2 comes up
        refine GO_call rfl rfl rfl rfl rfl rfl Try.call26 (fun w hw => number_is (bs := (((bs.drop (24 + 40 * i.j)).take 40).drop 0).take 4) ((subB (lo := 0) hx hxc 4).keep hw (by simp)) (by simp only [List.length_take, List.length_drop]; omega) (by simp only [List.length_take, List.length_drop]; omega)) ?_
        rintro _ _ ⟨rfl, rfl⟩
        rw [show numAt ((((bs.drop (24 + 40 * i.j)).take 40).drop 0).take 4) 0 = numAt (bs.drop (24 + 40 * i.j)) 0 from by rw [numAt_take (by decide)]; simp only [numAt]; rw [bAt_take (by decide), bAt_take (by decide), bAt_take (by decide), bAt_take (by decide)]]
        refine GA_all [5, 7] (by kernel_rfl) rfl ⟨?_, ?_, trivial⟩
        · -- 5 comes up
          refine GO_call rfl rfl rfl rfl rfl rfl Try.call26 (fun w hw => number_is (bs := (((bs.drop (24 + 40 * i.j)).take 40).drop 4).take 4) ((subB (lo := 4) hx hxc 4).keep hw (by simp)) (by simp only [List.length_take, List.length_drop]; omega) (by simp only [List.length_take, List.length_drop]; omega)) ?_
          rintro _ _ ⟨rfl, rfl⟩
          rw [show numAt ((((bs.drop (24 + 40 * i.j)).take 40).drop 4).take 4) 0 = numAt (bs.drop (24 + 40 * i.j)) 4 from by rw [numAt_take (by decide)]; simp only [numAt]; rw [bAt_take (by decide), bAt_take (by decide), bAt_take (by decide), bAt_take (by decide)]]
          refine GA_y 6 rfl (by kernel_rfl) (by kernel_rfl) (by kernel_rfl) (fun _ _ _ h => h) rfl rfl rfl (Y_build (v := .agg (segL (segP (bs.drop (24 + 40 * i.j)) 0)).toArray) (vs := [(0, .int .i64 (segP (bs.drop (24 + 40 * i.j)) 0).load), (1, .int .i64 (segP (bs.drop (24 + 40 * i.j)) 0).bytes)]) rfl (fun w => build47 _ w)) ?_
          refine GA_one 7 (by kernel_rfl) ?_
          refine GO_w rfl rfl rfl rfl (W_alloc zr47 fun b8 => ⟨⟨_, by repeat (first | exact .nil | exact Pick.rfl' _ | exact Pick.skip (Pick.rfl' _) | exact Pick.skip (Pick.skip (Pick.rfl' _)) | (apply Pick.cons; focus (first | exact .head | exact (.tail .head) | exact (.tail (.tail .head)) | exact (.tail (.tail (.tail .head))) | exact (.tail (.tail (.tail (.tail .head)))) | exact (.tail (.tail (.tail (.tail (.tail .head))))) | exact (.tail (.tail (.tail (.tail (.tail (.tail .head)))))) | exact (.tail (.tail (.tail (.tail (.tail (.tail (.tail .head))))))) | exact (.tail (.tail (.tail (.tail (.tail (.tail (.tail (.tail .head)))))))) | exact (.tail (.tail (.tail (.tail (.tail (.tail (.tail (.tail (.tail .head))))))))) | exact (.tail (.tail (.tail (.tail (.tail (.tail (.tail (.tail (.tail (.tail .head)))))))))) | exact (.tail (.tail (.tail (.tail (.tail (.tail (.tail (.tail (.tail (.tail (.tail .head))))))))))) | exact (.tail (.tail (.tail (.tail (.tail (.tail (.tail (.tail (.tail (.tail (.tail (.tail .head)))))))))))) | exact (.tail (.tail (.tail (.tail (.tail (.tail (.tail (.tail (.tail (.tail (.tail (.tail (.tail .head))))))))))))))))⟩, ?_⟩)
          refine GA_one 8 (by kernel_rfl) ?_
          refine GO_s rfl rfl rfl (S_all rfl rfl ag47 (segL_len _) (segL_all _) (by first | exact .head | exact (.tail .head) | exact (.tail (.tail .head)) | exact (.tail (.tail (.tail .head))) | exact (.tail (.tail (.tail (.tail .head)))) | exact (.tail (.tail (.tail (.tail (.tail .head))))) | exact (.tail (.tail (.tail (.tail (.tail (.tail .head)))))) | exact (.tail (.tail (.tail (.tail (.tail (.tail (.tail .head))))))) | exact (.tail (.tail (.tail (.tail (.tail (.tail (.tail (.tail .head)))))))) | exact (.tail (.tail (.tail (.tail (.tail (.tail (.tail (.tail (.tail .head))))))))) | exact (.tail (.tail (.tail (.tail (.tail (.tail (.tail (.tail (.tail (.tail .head)))))))))) | exact (.tail (.tail (.tail (.tail (.tail (.tail (.tail (.tail (.tail (.tail (.tail .head))))))))))) | exact (.tail (.tail (.tail (.tail (.tail (.tail (.tail (.tail (.tail (.tail (.tail (.tail .head)))))))))))) | exact (.tail (.tail (.tail (.tail (.tail (.tail (.tail (.tail (.tail (.tail (.tail (.tail (.tail .head)))))))))))))) (by rfl)) ?_
          refine GA_done (by kernel_rfl) ?_
          (repeat (first | (with_reducible refine R_seq ?_) | (with_reducible refine R_block_normal ?_)))
          (repeat (with_reducible refine G_seq ?_))
          refine G_region ?_
          refine GL_y rfl rfl (Y_assign rfl) ?_
          refine GL_nil ?_
          (repeat (first | (with_reducible refine R_seq ?_) | (with_reducible refine R_block_normal ?_)))
          (repeat (with_reducible refine G_seq ?_))
          refine G_block ?_
          (repeat (with_reducible refine G_seq ?_))
          refine G_loop (ι := Nat) (fun q => 32 - q) (fun q => q ≤ 32) (fun q => [(0, .slice ao bs.length c), (2, .pointer (some ⟨b2, 0, none⟩)), (3, .bool false), (4, .pointer (some ⟨b4, 0, none⟩)), (5, .int .i64 (numAt bs 20 : Nat)), (6, .int .i64 (i.j : Int)), (7, .slice (subA ao c (24 + 40 * i.j) 1) (64 + 40 * i.j - (24 + 40 * i.j)) (c - (24 + 40 * i.j))), (8, .pointer (some ⟨b8, 0, none⟩)), (9, .int .i64 (q : Int))]) (fun q => ⟨b8, 47, 34, segL (segP (bs.drop (24 + 40 * i.j)) q), (0, 0)⟩ :: ⟨b4, 24, 5, [Value.int .i64 (numAt bs 4 : Nat), .int .i64 (numAt bs 8 : Nat), .int .i64 (numAt bs 12 : Nat), .int .i64 (numAt bs 16 : Nat), .slice i.sa i.j i.sc], (0, 0)⟩ :: ⟨b2, 24, 5, [.int .i64 0, .int .i64 0, .int .i64 0, .int .i64 0, .slice none 0 0], (0, 0)⟩ :: i.NS) 0 ?_ (⟨by first | rfl | decide, by first | rfl | decide, by first | rfl | decide, by first | rfl | decide, by first | rfl | decide, by first | rfl | decide, by first | rfl | decide, by first | rfl | decide, by first | rfl | decide, trivial⟩) (by repeat (first | exact .nil | exact Pick.rfl' _ | exact Pick.skip (Pick.rfl' _) | exact Pick.skip (Pick.skip (Pick.rfl' _)) | (apply Pick.cons; focus (first | exact .head | exact (.tail .head) | exact (.tail (.tail .head)) | exact (.tail (.tail (.tail .head))) | exact (.tail (.tail (.tail (.tail .head)))) | exact (.tail (.tail (.tail (.tail (.tail .head))))) | exact (.tail (.tail (.tail (.tail (.tail (.tail .head)))))) | exact (.tail (.tail (.tail (.tail (.tail (.tail (.tail .head))))))) | exact (.tail (.tail (.tail (.tail (.tail (.tail (.tail (.tail .head)))))))) | exact (.tail (.tail (.tail (.tail (.tail (.tail (.tail (.tail (.tail .head))))))))) | exact (.tail (.tail (.tail (.tail (.tail (.tail (.tail (.tail (.tail (.tail .head)))))))))) | exact (.tail (.tail (.tail (.tail (.tail (.tail (.tail (.tail (.tail (.tail (.tail .head))))))))))) | exact (.tail (.tail (.tail (.tail (.tail (.tail (.tail (.tail (.tail (.tail (.tail (.tail .head)))))))))))) | exact (.tail (.tail (.tail (.tail (.tail (.tail (.tail (.tail (.tail (.tail (.tail (.tail (.tail .head))))))))))))))))) ?_
          · omega
          intro q hq
          (repeat (with_reducible refine G_seq ?_))
          refine G_region ?_
          refine GL_y rfl rfl (Y_move rfl) ?_
          refine GL_y rfl rfl (Y_lssN (b := 32) rfl rfl) ?_
          refine GL_nil ?_
          (repeat (first | (with_reducible refine R_seq ?_) | (with_reducible refine R_block_normal ?_)))
          (repeat (with_reducible refine G_seq ?_))
          refine G_cond_dec rfl (fun ht65 => ?_) (fun ht65 => ?_)
          · -- yes
            (repeat (with_reducible refine G_seq ?_))
            refine G_skip ?_
            (repeat (first | (with_reducible refine R_seq ?_) | (with_reducible refine R_block_normal ?_)))
            (repeat (with_reducible refine G_seq ?_))
            refine G_block ?_
            have hxq : ((bs.drop (24 + 40 * i.j)).take 40)[8 + q]? = some (bAt (bs.drop (24 + 40 * i.j)) (8 + q)) := by
              rw [List.getElem?_take, if_pos (by omega)]; exact bAt_some (by rw [List.length_drop]; omega)
            (repeat (with_reducible refine G_seq ?_))
            refine G_region ?_
            refine GL_y rfl rfl (Y_move rfl) ?_
            refine GL_y rfl rfl (Y_move rfl) ?_
            refine GL_y rfl rfl (Y_move rfl) ?_
            refine GL_y rfl rfl (Y_addN (a := 8) rfl rfl (by omega)) ?_
            refine GL_y rfl rfl (Y_bAt (j := 8 + q) (bs := (bs.drop (24 + 40 * i.j)).take 40) hx rfl rfl hxq (by simp only [List.length_take, List.length_drop]; omega)) ?_
            refine GL_y rfl rfl (Y_bGet hx (by simp) rfl hxq) ?_
            refine GL_y rfl rfl (Y_field fd47_2 rfl) ?_
            refine GL_y rfl rfl (Y_idxA1 ar45 rfl rfl (by first | omega | decide)) ?_
            refine GL_s rfl (S_sc rfl sc5 rfl rfl (by first | exact .head | exact (.tail .head) | exact (.tail (.tail .head)) | exact (.tail (.tail (.tail .head))) | exact (.tail (.tail (.tail (.tail .head)))) | exact (.tail (.tail (.tail (.tail (.tail .head))))) | exact (.tail (.tail (.tail (.tail (.tail (.tail .head)))))) | exact (.tail (.tail (.tail (.tail (.tail (.tail (.tail .head))))))) | exact (.tail (.tail (.tail (.tail (.tail (.tail (.tail (.tail .head)))))))) | exact (.tail (.tail (.tail (.tail (.tail (.tail (.tail (.tail (.tail .head))))))))) | exact (.tail (.tail (.tail (.tail (.tail (.tail (.tail (.tail (.tail (.tail .head)))))))))) | exact (.tail (.tail (.tail (.tail (.tail (.tail (.tail (.tail (.tail (.tail (.tail .head))))))))))) | exact (.tail (.tail (.tail (.tail (.tail (.tail (.tail (.tail (.tail (.tail (.tail (.tail .head)))))))))))) | exact (.tail (.tail (.tail (.tail (.tail (.tail (.tail (.tail (.tail (.tail (.tail (.tail (.tail .head)))))))))))))) (segP_set _ ht65)) ?_
            refine GL_nil ?_
            (repeat (first | (with_reducible refine R_seq ?_) | (with_reducible refine R_block_normal ?_)))
            (repeat (with_reducible refine G_seq ?_))
            refine G_region ?_
            refine GL_y rfl rfl (Y_move rfl) ?_
            refine GL_y rfl rfl (Y_addN (b := 1) rfl rfl (by first | omega | decide)) ?_
            refine GL_y rfl rfl (Y_assign rfl) ?_
            refine GL_nil ?_
            (repeat (first | (with_reducible refine R_seq ?_) | (with_reducible refine R_block_normal ?_)))
            (repeat (with_reducible refine R_block_normal ?_))
            refine R_fam (q + 1) ?_ (⟨by first | rfl | decide, by first | rfl | decide, by first | rfl | decide, by first | rfl | decide, by first | rfl | decide, by first | rfl | decide, by first | rfl | decide, by first | rfl | decide, by first | rfl | decide, trivial⟩) (by repeat (first | exact .nil | exact Pick.rfl' _ | exact Pick.skip (Pick.rfl' _) | exact Pick.skip (Pick.skip (Pick.rfl' _)) | (apply Pick.cons; focus (first | exact .head | exact (.tail .head) | exact (.tail (.tail .head)) | exact (.tail (.tail (.tail .head))) | exact (.tail (.tail (.tail (.tail .head)))) | exact (.tail (.tail (.tail (.tail (.tail .head))))) | exact (.tail (.tail (.tail (.tail (.tail (.tail .head)))))) | exact (.tail (.tail (.tail (.tail (.tail (.tail (.tail .head))))))) | exact (.tail (.tail (.tail (.tail (.tail (.tail (.tail (.tail .head)))))))) | exact (.tail (.tail (.tail (.tail (.tail (.tail (.tail (.tail (.tail .head))))))))) | exact (.tail (.tail (.tail (.tail (.tail (.tail (.tail (.tail (.tail (.tail .head)))))))))) | exact (.tail (.tail (.tail (.tail (.tail (.tail (.tail (.tail (.tail (.tail (.tail .head))))))))))) | exact (.tail (.tail (.tail (.tail (.tail (.tail (.tail (.tail (.tail (.tail (.tail (.tail .head)))))))))))) | exact (.tail (.tail (.tail (.tail (.tail (.tail (.tail (.tail (.tail (.tail (.tail (.tail (.tail .head)))))))))))))))))
            exact ⟨by omega, by omega⟩
          · -- no
            (repeat (with_reducible refine G_seq ?_))
            refine G_exit ?_
            (repeat (first | (with_reducible refine R_then_exit ?_) | (with_reducible refine R_block_exit ?_) | (with_reducible refine R_block_other (by decide) ?_)))
            (repeat (first | (with_reducible refine R_seq ?_) | (with_reducible refine R_block_normal ?_)))
            obtain rfl : q = 32 := by omega
            (repeat (with_reducible refine G_seq ?_))
            refine G_region ?_
            refine GL_y rfl rfl (Y_field fd24_4 rfl) ?_
            refine GL_y rfl rfl (Y_loadS rfl sc22 (by first | exact .head _ | exact .tail _ (.head _) | exact .tail _ (.tail _ (.head _)) | exact .tail _ (.tail _ (.tail _ (.head _))) | exact .tail _ (.tail _ (.tail _ (.tail _ (.head _)))) | exact .tail _ (.tail _ (.tail _ (.tail _ (.tail _ (.head _))))) | exact .tail _ (.tail _ (.tail _ (.tail _ (.tail _ (.tail _ (.head _)))))) | exact .tail _ (.tail _ (.tail _ (.tail _ (.tail _ (.tail _ (.tail _ (.head _))))))) | exact .tail _ (.tail _ (.tail _ (.tail _ (.tail _ (.tail _ (.tail _ (.tail _ (.head _)))))))) | exact .tail _ (.tail _ (.tail _ (.tail _ (.tail _ (.tail _ (.tail _ (.tail _ (.tail _ (.head _))))))))) | exact .tail _ (.tail _ (.tail _ (.tail _ (.tail _ (.tail _ (.tail _ (.tail _ (.tail _ (.tail _ (.head _)))))))))) | exact .tail _ (.tail _ (.tail _ (.tail _ (.tail _ (.tail _ (.tail _ (.tail _ (.tail _ (.tail _ (.tail _ (.head _))))))))))) | exact .tail _ (.tail _ (.tail _ (.tail _ (.tail _ (.tail _ (.tail _ (.tail _ (.tail _ (.tail _ (.tail _ (.tail _ (.head _)))))))))))) | exact .tail _ (.tail _ (.tail _ (.tail _ (.tail _ (.tail _ (.tail _ (.tail _ (.tail _ (.tail _ (.tail _ (.tail _ (.tail _ (.head _)))))))))))))) (by rfl)) ?_
            refine GL_y rfl rfl (Y_loadA (xs := segL (segP (bs.drop (24 + 40 * i.j)) 32)) rfl (by first | exact .head _ | exact .tail _ (.head _) | exact .tail _ (.tail _ (.head _)) | exact .tail _ (.tail _ (.tail _ (.head _))) | exact .tail _ (.tail _ (.tail _ (.tail _ (.head _)))) | exact .tail _ (.tail _ (.tail _ (.tail _ (.tail _ (.head _))))) | exact .tail _ (.tail _ (.tail _ (.tail _ (.tail _ (.tail _ (.head _)))))) | exact .tail _ (.tail _ (.tail _ (.tail _ (.tail _ (.tail _ (.tail _ (.head _))))))) | exact .tail _ (.tail _ (.tail _ (.tail _ (.tail _ (.tail _ (.tail _ (.tail _ (.head _)))))))) | exact .tail _ (.tail _ (.tail _ (.tail _ (.tail _ (.tail _ (.tail _ (.tail _ (.tail _ (.head _))))))))) | exact .tail _ (.tail _ (.tail _ (.tail _ (.tail _ (.tail _ (.tail _ (.tail _ (.tail _ (.tail _ (.head _)))))))))) | exact .tail _ (.tail _ (.tail _ (.tail _ (.tail _ (.tail _ (.tail _ (.tail _ (.tail _ (.tail _ (.tail _ (.head _))))))))))) | exact .tail _ (.tail _ (.tail _ (.tail _ (.tail _ (.tail _ (.tail _ (.tail _ (.tail _ (.tail _ (.tail _ (.tail _ (.head _)))))))))))) | exact .tail _ (.tail _ (.tail _ (.tail _ (.tail _ (.tail _ (.tail _ (.tail _ (.tail _ (.tail _ (.tail _ (.tail _ (.tail _ (.head _)))))))))))))) ag47 (segL_len _)) ?_
            refine GL_w rfl rfl (W_bs1 (xs := segL (segP (bs.drop (24 + 40 * i.j)) 32)) Try.underlying22 el47 rfl (segL_len _) (by decide) (by decide) fun b79 => ?_)
            refine GL_w rfl rfl (W_appRec (r := segsAt bs i.j) (a := segOf (bs.drop (24 + 40 * i.j))) segL_len segL_all (by decide) (by decide) Try.underlying22 el47 hO rfl (segsAt_len _ _).symm rfl (by rw [segsAt_len]; omega) (.skip (.skip (.skip (.skip (Pick.rfl' _))))) (by first | exact .head _ | exact .tail _ (.head _) | exact .tail _ (.tail _ (.head _)) | exact .tail _ (.tail _ (.tail _ (.head _))) | exact .tail _ (.tail _ (.tail _ (.tail _ (.head _)))) | exact .tail _ (.tail _ (.tail _ (.tail _ (.tail _ (.head _))))) | exact .tail _ (.tail _ (.tail _ (.tail _ (.tail _ (.tail _ (.head _)))))) | exact .tail _ (.tail _ (.tail _ (.tail _ (.tail _ (.tail _ (.tail _ (.head _))))))) | exact .tail _ (.tail _ (.tail _ (.tail _ (.tail _ (.tail _ (.tail _ (.tail _ (.head _)))))))) | exact .tail _ (.tail _ (.tail _ (.tail _ (.tail _ (.tail _ (.tail _ (.tail _ (.tail _ (.head _))))))))) | exact .tail _ (.tail _ (.tail _ (.tail _ (.tail _ (.tail _ (.tail _ (.tail _ (.tail _ (.tail _ (.head _)))))))))) | exact .tail _ (.tail _ (.tail _ (.tail _ (.tail _ (.tail _ (.tail _ (.tail _ (.tail _ (.tail _ (.tail _ (.head _))))))))))) | exact .tail _ (.tail _ (.tail _ (.tail _ (.tail _ (.tail _ (.tail _ (.tail _ (.tail _ (.tail _ (.tail _ (.tail _ (.head _)))))))))))) | exact .tail _ (.tail _ (.tail _ (.tail _ (.tail _ (.tail _ (.tail _ (.tail _ (.tail _ (.tail _ (.tail _ (.tail _ (.tail _ (.head _)))))))))))))) fun b80 c80 h80 => ?_)
            refine GL_y rfl rfl (Y_field fd24_4 rfl) ?_
            refine GL_s rfl (S_sc rfl sc22 rfl rfl (by first | exact .head | exact (.tail .head) | exact (.tail (.tail .head)) | exact (.tail (.tail (.tail .head))) | exact (.tail (.tail (.tail (.tail .head)))) | exact (.tail (.tail (.tail (.tail (.tail .head))))) | exact (.tail (.tail (.tail (.tail (.tail (.tail .head)))))) | exact (.tail (.tail (.tail (.tail (.tail (.tail (.tail .head))))))) | exact (.tail (.tail (.tail (.tail (.tail (.tail (.tail (.tail .head)))))))) | exact (.tail (.tail (.tail (.tail (.tail (.tail (.tail (.tail (.tail .head))))))))) | exact (.tail (.tail (.tail (.tail (.tail (.tail (.tail (.tail (.tail (.tail .head)))))))))) | exact (.tail (.tail (.tail (.tail (.tail (.tail (.tail (.tail (.tail (.tail (.tail .head))))))))))) | exact (.tail (.tail (.tail (.tail (.tail (.tail (.tail (.tail (.tail (.tail (.tail (.tail .head)))))))))))) | exact (.tail (.tail (.tail (.tail (.tail (.tail (.tail (.tail (.tail (.tail (.tail (.tail (.tail .head)))))))))))))) (by rfl)) ?_
            refine GL_nil ?_
            (repeat (first | (with_reducible refine R_seq ?_) | (with_reducible refine R_block_normal ?_)))
            (repeat (with_reducible refine G_seq ?_))
            refine G_region ?_
            refine GL_y rfl rfl (Y_move rfl) ?_
            refine GL_y rfl rfl (Y_addN (b := 1) rfl rfl (by first | omega | decide)) ?_
            refine GL_y rfl rfl (Y_assign rfl) ?_
            refine GL_nil ?_
            (repeat (first | (with_reducible refine R_seq ?_) | (with_reducible refine R_block_normal ?_)))
            (repeat (with_reducible refine R_block_normal ?_))
            rw [show segsAt bs i.j ++ [segOf (bs.drop (24 + 40 * i.j))] = segsAt bs (i.j + 1) from (segsAt_succ _ _).symm, segsAt_len]
            refine R_fam ⟨i.j + 1, [⟨b80, 47, c80 * 34, recL segL (segsAt bs (i.j + 1)), (0, 0)⟩], some ⟨b80, 0, none⟩, c80⟩ ?_ (⟨by first | rfl | decide, by first | rfl | decide, by first | rfl | decide, by first | rfl | decide, by first | rfl | decide, by first | rfl | decide, trivial⟩) (by repeat (first | exact .nil | exact Pick.rfl' _ | exact Pick.skip (Pick.rfl' _) | exact Pick.skip (Pick.skip (Pick.rfl' _)) | (apply Pick.cons; focus (first | exact .head | exact (.tail .head) | exact (.tail (.tail .head)) | exact (.tail (.tail (.tail .head))) | exact (.tail (.tail (.tail (.tail .head)))) | exact (.tail (.tail (.tail (.tail (.tail .head))))) | exact (.tail (.tail (.tail (.tail (.tail (.tail .head)))))) | exact (.tail (.tail (.tail (.tail (.tail (.tail (.tail .head))))))) | exact (.tail (.tail (.tail (.tail (.tail (.tail (.tail (.tail .head)))))))) | exact (.tail (.tail (.tail (.tail (.tail (.tail (.tail (.tail (.tail .head))))))))) | exact (.tail (.tail (.tail (.tail (.tail (.tail (.tail (.tail (.tail (.tail .head)))))))))) | exact (.tail (.tail (.tail (.tail (.tail (.tail (.tail (.tail (.tail (.tail (.tail .head))))))))))) | exact (.tail (.tail (.tail (.tail (.tail (.tail (.tail (.tail (.tail (.tail (.tail (.tail .head)))))))))))) | exact (.tail (.tail (.tail (.tail (.tail (.tail (.tail (.tail (.tail (.tail (.tail (.tail (.tail .head)))))))))))))))))
            exact ⟨⟨by simp only; omega, .inr ⟨b80, rfl, rfl⟩⟩, by simp only; omega⟩
        · -- 7 comes up
          refine GO_w rfl rfl rfl rfl (W_alloc zr47 fun b8 => ⟨⟨_, by repeat (first | exact .nil | exact Pick.rfl' _ | exact Pick.skip (Pick.rfl' _) | exact Pick.skip (Pick.skip (Pick.rfl' _)) | (apply Pick.cons; focus (first | exact .head | exact (.tail .head) | exact (.tail (.tail .head)) | exact (.tail (.tail (.tail .head))) | exact (.tail (.tail (.tail (.tail .head)))) | exact (.tail (.tail (.tail (.tail (.tail .head))))) | exact (.tail (.tail (.tail (.tail (.tail (.tail .head)))))) | exact (.tail (.tail (.tail (.tail (.tail (.tail (.tail .head))))))) | exact (.tail (.tail (.tail (.tail (.tail (.tail (.tail (.tail .head)))))))) | exact (.tail (.tail (.tail (.tail (.tail (.tail (.tail (.tail (.tail .head))))))))) | exact (.tail (.tail (.tail (.tail (.tail (.tail (.tail (.tail (.tail (.tail .head)))))))))) | exact (.tail (.tail (.tail (.tail (.tail (.tail (.tail (.tail (.tail (.tail (.tail .head))))))))))) | exact (.tail (.tail (.tail (.tail (.tail (.tail (.tail (.tail (.tail (.tail (.tail (.tail .head)))))))))))) | exact (.tail (.tail (.tail (.tail (.tail (.tail (.tail (.tail (.tail (.tail (.tail (.tail (.tail .head))))))))))))))))⟩, ?_⟩)
          refine GA_one 5 (by kernel_rfl) ?_
          refine GO_call rfl rfl rfl rfl rfl rfl Try.call26 (fun w hw => number_is (bs := (((bs.drop (24 + 40 * i.j)).take 40).drop 4).take 4) ((subB (lo := 4) hx hxc 4).keep hw (by simp)) (by simp only [List.length_take, List.length_drop]; omega) (by simp only [List.length_take, List.length_drop]; omega)) ?_
          rintro _ _ ⟨rfl, rfl⟩
          rw [show numAt ((((bs.drop (24 + 40 * i.j)).take 40).drop 4).take 4) 0 = numAt (bs.drop (24 + 40 * i.j)) 4 from by rw [numAt_take (by decide)]; simp only [numAt]; rw [bAt_take (by decide), bAt_take (by decide), bAt_take (by decide), bAt_take (by decide)]]
          refine GA_y 6 rfl (by kernel_rfl) (by kernel_rfl) (by kernel_rfl) (fun _ _ _ h => h) rfl rfl rfl (Y_build (v := .agg (segL (segP (bs.drop (24 + 40 * i.j)) 0)).toArray) (vs := [(0, .int .i64 (segP (bs.drop (24 + 40 * i.j)) 0).load), (1, .int .i64 (segP (bs.drop (24 + 40 * i.j)) 0).bytes)]) rfl (fun w => build47 _ w)) ?_
          refine GA_one 8 (by kernel_rfl) ?_
          refine GO_s rfl rfl rfl (S_all rfl rfl ag47 (segL_len _) (segL_all _) (by first | exact .head | exact (.tail .head) | exact (.tail (.tail .head)) | exact (.tail (.tail (.tail .head))) | exact (.tail (.tail (.tail (.tail .head)))) | exact (.tail (.tail (.tail (.tail (.tail .head))))) | exact (.tail (.tail (.tail (.tail (.tail (.tail .head)))))) | exact (.tail (.tail (.tail (.tail (.tail (.tail (.tail .head))))))) | exact (.tail (.tail (.tail (.tail (.tail (.tail (.tail (.tail .head)))))))) | exact (.tail (.tail (.tail (.tail (.tail (.tail (.tail (.tail (.tail .head))))))))) | exact (.tail (.tail (.tail (.tail (.tail (.tail (.tail (.tail (.tail (.tail .head)))))))))) | exact (.tail (.tail (.tail (.tail (.tail (.tail (.tail (.tail (.tail (.tail (.tail .head))))))))))) | exact (.tail (.tail (.tail (.tail (.tail (.tail (.tail (.tail (.tail (.tail (.tail (.tail .head)))))))))))) | exact (.tail (.tail (.tail (.tail (.tail (.tail (.tail (.tail (.tail (.tail (.tail (.tail (.tail .head)))))))))))))) (by rfl)) ?_
          refine GA_done (by kernel_rfl) ?_
          (repeat (first | (with_reducible refine R_seq ?_) | (with_reducible refine R_block_normal ?_)))
          (repeat (with_reducible refine G_seq ?_))
          refine G_region ?_
          refine GL_y rfl rfl (Y_assign rfl) ?_
          refine GL_nil ?_
          (repeat (first | (with_reducible refine R_seq ?_) | (with_reducible refine R_block_normal ?_)))
          (repeat (with_reducible refine G_seq ?_))
          refine G_block ?_
          (repeat (with_reducible refine G_seq ?_))
          refine G_loop (ι := Nat) (fun q => 32 - q) (fun q => q ≤ 32) (fun q => [(0, .slice ao bs.length c), (2, .pointer (some ⟨b2, 0, none⟩)), (3, .bool false), (4, .pointer (some ⟨b4, 0, none⟩)), (5, .int .i64 (numAt bs 20 : Nat)), (6, .int .i64 (i.j : Int)), (7, .slice (subA ao c (24 + 40 * i.j) 1) (64 + 40 * i.j - (24 + 40 * i.j)) (c - (24 + 40 * i.j))), (8, .pointer (some ⟨b8, 0, none⟩)), (9, .int .i64 (q : Int))]) (fun q => ⟨b8, 47, 34, segL (segP (bs.drop (24 + 40 * i.j)) q), (0, 0)⟩ :: ⟨b4, 24, 5, [Value.int .i64 (numAt bs 4 : Nat), .int .i64 (numAt bs 8 : Nat), .int .i64 (numAt bs 12 : Nat), .int .i64 (numAt bs 16 : Nat), .slice i.sa i.j i.sc], (0, 0)⟩ :: ⟨b2, 24, 5, [.int .i64 0, .int .i64 0, .int .i64 0, .int .i64 0, .slice none 0 0], (0, 0)⟩ :: i.NS) 0 ?_ (⟨by first | rfl | decide, by first | rfl | decide, by first | rfl | decide, by first | rfl | decide, by first | rfl | decide, by first | rfl | decide, by first | rfl | decide, by first | rfl | decide, by first | rfl | decide, trivial⟩) (by repeat (first | exact .nil | exact Pick.rfl' _ | exact Pick.skip (Pick.rfl' _) | exact Pick.skip (Pick.skip (Pick.rfl' _)) | (apply Pick.cons; focus (first | exact .head | exact (.tail .head) | exact (.tail (.tail .head)) | exact (.tail (.tail (.tail .head))) | exact (.tail (.tail (.tail (.tail .head)))) | exact (.tail (.tail (.tail (.tail (.tail .head))))) | exact (.tail (.tail (.tail (.tail (.tail (.tail .head)))))) | exact (.tail (.tail (.tail (.tail (.tail (.tail (.tail .head))))))) | exact (.tail (.tail (.tail (.tail (.tail (.tail (.tail (.tail .head)))))))) | exact (.tail (.tail (.tail (.tail (.tail (.tail (.tail (.tail (.tail .head))))))))) | exact (.tail (.tail (.tail (.tail (.tail (.tail (.tail (.tail (.tail (.tail .head)))))))))) | exact (.tail (.tail (.tail (.tail (.tail (.tail (.tail (.tail (.tail (.tail (.tail .head))))))))))) | exact (.tail (.tail (.tail (.tail (.tail (.tail (.tail (.tail (.tail (.tail (.tail (.tail .head)))))))))))) | exact (.tail (.tail (.tail (.tail (.tail (.tail (.tail (.tail (.tail (.tail (.tail (.tail (.tail .head))))))))))))))))) ?_
          · omega
          intro q hq
          (repeat (with_reducible refine G_seq ?_))
          refine G_region ?_
          refine GL_y rfl rfl (Y_move rfl) ?_
          refine GL_y rfl rfl (Y_lssN (b := 32) rfl rfl) ?_
          refine GL_nil ?_
          (repeat (first | (with_reducible refine R_seq ?_) | (with_reducible refine R_block_normal ?_)))
          (repeat (with_reducible refine G_seq ?_))
          refine G_cond_dec rfl (fun ht65 => ?_) (fun ht65 => ?_)
          · -- yes
            (repeat (with_reducible refine G_seq ?_))
            refine G_skip ?_
            (repeat (first | (with_reducible refine R_seq ?_) | (with_reducible refine R_block_normal ?_)))
            (repeat (with_reducible refine G_seq ?_))
            refine G_block ?_
            have hxq : ((bs.drop (24 + 40 * i.j)).take 40)[8 + q]? = some (bAt (bs.drop (24 + 40 * i.j)) (8 + q)) := by
              rw [List.getElem?_take, if_pos (by omega)]; exact bAt_some (by rw [List.length_drop]; omega)
            (repeat (with_reducible refine G_seq ?_))
            refine G_region ?_
            refine GL_y rfl rfl (Y_move rfl) ?_
            refine GL_y rfl rfl (Y_move rfl) ?_
            refine GL_y rfl rfl (Y_move rfl) ?_
            refine GL_y rfl rfl (Y_addN (a := 8) rfl rfl (by omega)) ?_
            refine GL_y rfl rfl (Y_bAt (j := 8 + q) (bs := (bs.drop (24 + 40 * i.j)).take 40) hx rfl rfl hxq (by simp only [List.length_take, List.length_drop]; omega)) ?_
            refine GL_y rfl rfl (Y_bGet hx (by simp) rfl hxq) ?_
            refine GL_y rfl rfl (Y_field fd47_2 rfl) ?_
            refine GL_y rfl rfl (Y_idxA1 ar45 rfl rfl (by first | omega | decide)) ?_
            refine GL_s rfl (S_sc rfl sc5 rfl rfl (by first | exact .head | exact (.tail .head) | exact (.tail (.tail .head)) | exact (.tail (.tail (.tail .head))) | exact (.tail (.tail (.tail (.tail .head)))) | exact (.tail (.tail (.tail (.tail (.tail .head))))) | exact (.tail (.tail (.tail (.tail (.tail (.tail .head)))))) | exact (.tail (.tail (.tail (.tail (.tail (.tail (.tail .head))))))) | exact (.tail (.tail (.tail (.tail (.tail (.tail (.tail (.tail .head)))))))) | exact (.tail (.tail (.tail (.tail (.tail (.tail (.tail (.tail (.tail .head))))))))) | exact (.tail (.tail (.tail (.tail (.tail (.tail (.tail (.tail (.tail (.tail .head)))))))))) | exact (.tail (.tail (.tail (.tail (.tail (.tail (.tail (.tail (.tail (.tail (.tail .head))))))))))) | exact (.tail (.tail (.tail (.tail (.tail (.tail (.tail (.tail (.tail (.tail (.tail (.tail .head)))))))))))) | exact (.tail (.tail (.tail (.tail (.tail (.tail (.tail (.tail (.tail (.tail (.tail (.tail (.tail .head)))))))))))))) (segP_set _ ht65)) ?_
            refine GL_nil ?_
            (repeat (first | (with_reducible refine R_seq ?_) | (with_reducible refine R_block_normal ?_)))
            (repeat (with_reducible refine G_seq ?_))
            refine G_region ?_
            refine GL_y rfl rfl (Y_move rfl) ?_
            refine GL_y rfl rfl (Y_addN (b := 1) rfl rfl (by first | omega | decide)) ?_
            refine GL_y rfl rfl (Y_assign rfl) ?_
            refine GL_nil ?_
            (repeat (first | (with_reducible refine R_seq ?_) | (with_reducible refine R_block_normal ?_)))
            (repeat (with_reducible refine R_block_normal ?_))
            refine R_fam (q + 1) ?_ (⟨by first | rfl | decide, by first | rfl | decide, by first | rfl | decide, by first | rfl | decide, by first | rfl | decide, by first | rfl | decide, by first | rfl | decide, by first | rfl | decide, by first | rfl | decide, trivial⟩) (by repeat (first | exact .nil | exact Pick.rfl' _ | exact Pick.skip (Pick.rfl' _) | exact Pick.skip (Pick.skip (Pick.rfl' _)) | (apply Pick.cons; focus (first | exact .head | exact (.tail .head) | exact (.tail (.tail .head)) | exact (.tail (.tail (.tail .head))) | exact (.tail (.tail (.tail (.tail .head)))) | exact (.tail (.tail (.tail (.tail (.tail .head))))) | exact (.tail (.tail (.tail (.tail (.tail (.tail .head)))))) | exact (.tail (.tail (.tail (.tail (.tail (.tail (.tail .head))))))) | exact (.tail (.tail (.tail (.tail (.tail (.tail (.tail (.tail .head)))))))) | exact (.tail (.tail (.tail (.tail (.tail (.tail (.tail (.tail (.tail .head))))))))) | exact (.tail (.tail (.tail (.tail (.tail (.tail (.tail (.tail (.tail (.tail .head)))))))))) | exact (.tail (.tail (.tail (.tail (.tail (.tail (.tail (.tail (.tail (.tail (.tail .head))))))))))) | exact (.tail (.tail (.tail (.tail (.tail (.tail (.tail (.tail (.tail (.tail (.tail (.tail .head)))))))))))) | exact (.tail (.tail (.tail (.tail (.tail (.tail (.tail (.tail (.tail (.tail (.tail (.tail (.tail .head)))))))))))))))))
            exact ⟨by omega, by omega⟩
          · -- no
            (repeat (with_reducible refine G_seq ?_))
            refine G_exit ?_
            (repeat (first | (with_reducible refine R_then_exit ?_) | (with_reducible refine R_block_exit ?_) | (with_reducible refine R_block_other (by decide) ?_)))
            (repeat (first | (with_reducible refine R_seq ?_) | (with_reducible refine R_block_normal ?_)))
            obtain rfl : q = 32 := by omega
            (repeat (with_reducible refine G_seq ?_))
            refine G_region ?_
            refine GL_y rfl rfl (Y_field fd24_4 rfl) ?_
            refine GL_y rfl rfl (Y_loadS rfl sc22 (by first | exact .head _ | exact .tail _ (.head _) | exact .tail _ (.tail _ (.head _)) | exact .tail _ (.tail _ (.tail _ (.head _))) | exact .tail _ (.tail _ (.tail _ (.tail _ (.head _)))) | exact .tail _ (.tail _ (.tail _ (.tail _ (.tail _ (.head _))))) | exact .tail _ (.tail _ (.tail _ (.tail _ (.tail _ (.tail _ (.head _)))))) | exact .tail _ (.tail _ (.tail _ (.tail _ (.tail _ (.tail _ (.tail _ (.head _))))))) | exact .tail _ (.tail _ (.tail _ (.tail _ (.tail _ (.tail _ (.tail _ (.tail _ (.head _)))))))) | exact .tail _ (.tail _ (.tail _ (.tail _ (.tail _ (.tail _ (.tail _ (.tail _ (.tail _ (.head _))))))))) | exact .tail _ (.tail _ (.tail _ (.tail _ (.tail _ (.tail _ (.tail _ (.tail _ (.tail _ (.tail _ (.head _)))))))))) | exact .tail _ (.tail _ (.tail _ (.tail _ (.tail _ (.tail _ (.tail _ (.tail _ (.tail _ (.tail _ (.tail _ (.head _))))))))))) | exact .tail _ (.tail _ (.tail _ (.tail _ (.tail _ (.tail _ (.tail _ (.tail _ (.tail _ (.tail _ (.tail _ (.tail _ (.head _)))))))))))) | exact .tail _ (.tail _ (.tail _ (.tail _ (.tail _ (.tail _ (.tail _ (.tail _ (.tail _ (.tail _ (.tail _ (.tail _ (.tail _ (.head _)))))))))))))) (by rfl)) ?_
            refine GL_y rfl rfl (Y_loadA (xs := segL (segP (bs.drop (24 + 40 * i.j)) 32)) rfl (by first | exact .head _ | exact .tail _ (.head _) | exact .tail _ (.tail _ (.head _)) | exact .tail _ (.tail _ (.tail _ (.head _))) | exact .tail _ (.tail _ (.tail _ (.tail _ (.head _)))) | exact .tail _ (.tail _ (.tail _ (.tail _ (.tail _ (.head _))))) | exact .tail _ (.tail _ (.tail _ (.tail _ (.tail _ (.tail _ (.head _)))))) | exact .tail _ (.tail _ (.tail _ (.tail _ (.tail _ (.tail _ (.tail _ (.head _))))))) | exact .tail _ (.tail _ (.tail _ (.tail _ (.tail _ (.tail _ (.tail _ (.tail _ (.head _)))))))) | exact .tail _ (.tail _ (.tail _ (.tail _ (.tail _ (.tail _ (.tail _ (.tail _ (.tail _ (.head _))))))))) | exact .tail _ (.tail _ (.tail _ (.tail _ (.tail _ (.tail _ (.tail _ (.tail _ (.tail _ (.tail _ (.head _)))))))))) | exact .tail _ (.tail _ (.tail _ (.tail _ (.tail _ (.tail _ (.tail _ (.tail _ (.tail _ (.tail _ (.tail _ (.head _))))))))))) | exact .tail _ (.tail _ (.tail _ (.tail _ (.tail _ (.tail _ (.tail _ (.tail _ (.tail _ (.tail _ (.tail _ (.tail _ (.head _)))))))))))) | exact .tail _ (.tail _ (.tail _ (.tail _ (.tail _ (.tail _ (.tail _ (.tail _ (.tail _ (.tail _ (.tail _ (.tail _ (.tail _ (.head _)))))))))))))) ag47 (segL_len _)) ?_
            refine GL_w rfl rfl (W_bs1 (xs := segL (segP (bs.drop (24 + 40 * i.j)) 32)) Try.underlying22 el47 rfl (segL_len _) (by decide) (by decide) fun b79 => ?_)
            refine GL_w rfl rfl (W_appRec (r := segsAt bs i.j) (a := segOf (bs.drop (24 + 40 * i.j))) segL_len segL_all (by decide) (by decide) Try.underlying22 el47 hO rfl (segsAt_len _ _).symm rfl (by rw [segsAt_len]; omega) (.skip (.skip (.skip (.skip (Pick.rfl' _))))) (by first | exact .head _ | exact .tail _ (.head _) | exact .tail _ (.tail _ (.head _)) | exact .tail _ (.tail _ (.tail _ (.head _))) | exact .tail _ (.tail _ (.tail _ (.tail _ (.head _)))) | exact .tail _ (.tail _ (.tail _ (.tail _ (.tail _ (.head _))))) | exact .tail _ (.tail _ (.tail _ (.tail _ (.tail _ (.tail _ (.head _)))))) | exact .tail _ (.tail _ (.tail _ (.tail _ (.tail _ (.tail _ (.tail _ (.head _))))))) | exact .tail _ (.tail _ (.tail _ (.tail _ (.tail _ (.tail _ (.tail _ (.tail _ (.head _)))))))) | exact .tail _ (.tail _ (.tail _ (.tail _ (.tail _ (.tail _ (.tail _ (.tail _ (.tail _ (.head _))))))))) | exact .tail _ (.tail _ (.tail _ (.tail _ (.tail _ (.tail _ (.tail _ (.tail _ (.tail _ (.tail _ (.head _)))))))))) | exact .tail _ (.tail _ (.tail _ (.tail _ (.tail _ (.tail _ (.tail _ (.tail _ (.tail _ (.tail _ (.tail _ (.head _))))))))))) | exact .tail _ (.tail _ (.tail _ (.tail _ (.tail _ (.tail _ (.tail _ (.tail _ (.tail _ (.tail _ (.tail _ (.tail _ (.head _)))))))))))) | exact .tail _ (.tail _ (.tail _ (.tail _ (.tail _ (.tail _ (.tail _ (.tail _ (.tail _ (.tail _ (.tail _ (.tail _ (.tail _ (.head _)))))))))))))) fun b80 c80 h80 => ?_)
            refine GL_y rfl rfl (Y_field fd24_4 rfl) ?_
            refine GL_s rfl (S_sc rfl sc22 rfl rfl (by first | exact .head | exact (.tail .head) | exact (.tail (.tail .head)) | exact (.tail (.tail (.tail .head))) | exact (.tail (.tail (.tail (.tail .head)))) | exact (.tail (.tail (.tail (.tail (.tail .head))))) | exact (.tail (.tail (.tail (.tail (.tail (.tail .head)))))) | exact (.tail (.tail (.tail (.tail (.tail (.tail (.tail .head))))))) | exact (.tail (.tail (.tail (.tail (.tail (.tail (.tail (.tail .head)))))))) | exact (.tail (.tail (.tail (.tail (.tail (.tail (.tail (.tail (.tail .head))))))))) | exact (.tail (.tail (.tail (.tail (.tail (.tail (.tail (.tail (.tail (.tail .head)))))))))) | exact (.tail (.tail (.tail (.tail (.tail (.tail (.tail (.tail (.tail (.tail (.tail .head))))))))))) | exact (.tail (.tail (.tail (.tail (.tail (.tail (.tail (.tail (.tail (.tail (.tail (.tail .head)))))))))))) | exact (.tail (.tail (.tail (.tail (.tail (.tail (.tail (.tail (.tail (.tail (.tail (.tail (.tail .head)))))))))))))) (by rfl)) ?_
            refine GL_nil ?_
            (repeat (first | (with_reducible refine R_seq ?_) | (with_reducible refine R_block_normal ?_)))
            (repeat (with_reducible refine G_seq ?_))
            refine G_region ?_
            refine GL_y rfl rfl (Y_move rfl) ?_
            refine GL_y rfl rfl (Y_addN (b := 1) rfl rfl (by first | omega | decide)) ?_
            refine GL_y rfl rfl (Y_assign rfl) ?_
            refine GL_nil ?_
            (repeat (first | (with_reducible refine R_seq ?_) | (with_reducible refine R_block_normal ?_)))
            (repeat (with_reducible refine R_block_normal ?_))
            rw [show segsAt bs i.j ++ [segOf (bs.drop (24 + 40 * i.j))] = segsAt bs (i.j + 1) from (segsAt_succ _ _).symm, segsAt_len]
            refine R_fam ⟨i.j + 1, [⟨b80, 47, c80 * 34, recL segL (segsAt bs (i.j + 1)), (0, 0)⟩], some ⟨b80, 0, none⟩, c80⟩ ?_ (⟨by first | rfl | decide, by first | rfl | decide, by first | rfl | decide, by first | rfl | decide, by first | rfl | decide, by first | rfl | decide, trivial⟩) (by repeat (first | exact .nil | exact Pick.rfl' _ | exact Pick.skip (Pick.rfl' _) | exact Pick.skip (Pick.skip (Pick.rfl' _)) | (apply Pick.cons; focus (first | exact .head | exact (.tail .head) | exact (.tail (.tail .head)) | exact (.tail (.tail (.tail .head))) | exact (.tail (.tail (.tail (.tail .head)))) | exact (.tail (.tail (.tail (.tail (.tail .head))))) | exact (.tail (.tail (.tail (.tail (.tail (.tail .head)))))) | exact (.tail (.tail (.tail (.tail (.tail (.tail (.tail .head))))))) | exact (.tail (.tail (.tail (.tail (.tail (.tail (.tail (.tail .head)))))))) | exact (.tail (.tail (.tail (.tail (.tail (.tail (.tail (.tail (.tail .head))))))))) | exact (.tail (.tail (.tail (.tail (.tail (.tail (.tail (.tail (.tail (.tail .head)))))))))) | exact (.tail (.tail (.tail (.tail (.tail (.tail (.tail (.tail (.tail (.tail (.tail .head))))))))))) | exact (.tail (.tail (.tail (.tail (.tail (.tail (.tail (.tail (.tail (.tail (.tail (.tail .head)))))))))))) | exact (.tail (.tail (.tail (.tail (.tail (.tail (.tail (.tail (.tail (.tail (.tail (.tail (.tail .head)))))))))))))))))
            exact ⟨⟨by simp only; omega, .inr ⟨b80, rfl, rfl⟩⟩, by simp only; omega⟩
      · -- 7 comes up
        refine GO_w rfl rfl rfl rfl (W_alloc zr47 fun b8 => ⟨⟨_, by repeat (first | exact .nil | exact Pick.rfl' _ | exact Pick.skip (Pick.rfl' _) | exact Pick.skip (Pick.skip (Pick.rfl' _)) | (apply Pick.cons; focus (first | exact .head | exact (.tail .head) | exact (.tail (.tail .head)) | exact (.tail (.tail (.tail .head))) | exact (.tail (.tail (.tail (.tail .head)))) | exact (.tail (.tail (.tail (.tail (.tail .head))))) | exact (.tail (.tail (.tail (.tail (.tail (.tail .head)))))) | exact (.tail (.tail (.tail (.tail (.tail (.tail (.tail .head))))))) | exact (.tail (.tail (.tail (.tail (.tail (.tail (.tail (.tail .head)))))))) | exact (.tail (.tail (.tail (.tail (.tail (.tail (.tail (.tail (.tail .head))))))))) | exact (.tail (.tail (.tail (.tail (.tail (.tail (.tail (.tail (.tail (.tail .head)))))))))) | exact (.tail (.tail (.tail (.tail (.tail (.tail (.tail (.tail (.tail (.tail (.tail .head))))))))))) | exact (.tail (.tail (.tail (.tail (.tail (.tail (.tail (.tail (.tail (.tail (.tail (.tail .head)))))))))))) | exact (.tail (.tail (.tail (.tail (.tail (.tail (.tail (.tail (.tail (.tail (.tail (.tail (.tail .head))))))))))))))))⟩, ?_⟩)
        refine GA_one 2 (by kernel_rfl) ?_
        refine GO_call rfl rfl rfl rfl rfl rfl Try.call26 (fun w hw => number_is (bs := (((bs.drop (24 + 40 * i.j)).take 40).drop 0).take 4) ((subB (lo := 0) hx hxc 4).keep hw (by simp)) (by simp only [List.length_take, List.length_drop]; omega) (by simp only [List.length_take, List.length_drop]; omega)) ?_
        rintro _ _ ⟨rfl, rfl⟩
        rw [show numAt ((((bs.drop (24 + 40 * i.j)).take 40).drop 0).take 4) 0 = numAt (bs.drop (24 + 40 * i.j)) 0 from by rw [numAt_take (by decide)]; simp only [numAt]; rw [bAt_take (by decide), bAt_take (by decide), bAt_take (by decide), bAt_take (by decide)]]
        refine GA_one 5 (by kernel_rfl) ?_
        refine GO_call rfl rfl rfl rfl rfl rfl Try.call26 (fun w hw => number_is (bs := (((bs.drop (24 + 40 * i.j)).take 40).drop 4).take 4) ((subB (lo := 4) hx hxc 4).keep hw (by simp)) (by simp only [List.length_take, List.length_drop]; omega) (by simp only [List.length_take, List.length_drop]; omega)) ?_
        rintro _ _ ⟨rfl, rfl⟩
        rw [show numAt ((((bs.drop (24 + 40 * i.j)).take 40).drop 4).take 4) 0 = numAt (bs.drop (24 + 40 * i.j)) 4 from by rw [numAt_take (by decide)]; simp only [numAt]; rw [bAt_take (by decide), bAt_take (by decide), bAt_take (by decide), bAt_take (by decide)]]
        refine GA_y 6 rfl (by kernel_rfl) (by kernel_rfl) (by kernel_rfl) (fun _ _ _ h => h) rfl rfl rfl (Y_build (v := .agg (segL (segP (bs.drop (24 + 40 * i.j)) 0)).toArray) (vs := [(0, .int .i64 (segP (bs.drop (24 + 40 * i.j)) 0).load), (1, .int .i64 (segP (bs.drop (24 + 40 * i.j)) 0).bytes)]) rfl (fun w => build47 _ w)) ?_
        refine GA_one 8 (by kernel_rfl) ?_
        refine GO_s rfl rfl rfl (S_all rfl rfl ag47 (segL_len _) (segL_all _) (by first | exact .head | exact (.tail .head) | exact (.tail (.tail .head)) | exact (.tail (.tail (.tail .head))) | exact (.tail (.tail (.tail (.tail .head)))) | exact (.tail (.tail (.tail (.tail (.tail .head))))) | exact (.tail (.tail (.tail (.tail (.tail (.tail .head)))))) | exact (.tail (.tail (.tail (.tail (.tail (.tail (.tail .head))))))) | exact (.tail (.tail (.tail (.tail (.tail (.tail (.tail (.tail .head)))))))) | exact (.tail (.tail (.tail (.tail (.tail (.tail (.tail (.tail (.tail .head))))))))) | exact (.tail (.tail (.tail (.tail (.tail (.tail (.tail (.tail (.tail (.tail .head)))))))))) | exact (.tail (.tail (.tail (.tail (.tail (.tail (.tail (.tail (.tail (.tail (.tail .head))))))))))) | exact (.tail (.tail (.tail (.tail (.tail (.tail (.tail (.tail (.tail (.tail (.tail (.tail .head)))))))))))) | exact (.tail (.tail (.tail (.tail (.tail (.tail (.tail (.tail (.tail (.tail (.tail (.tail (.tail .head)))))))))))))) (by rfl)) ?_
        refine GA_done (by kernel_rfl) ?_
        (repeat (first | (with_reducible refine R_seq ?_) | (with_reducible refine R_block_normal ?_)))
        (repeat (with_reducible refine G_seq ?_))
        refine G_region ?_
        refine GL_y rfl rfl (Y_assign rfl) ?_
        refine GL_nil ?_
        (repeat (first | (with_reducible refine R_seq ?_) | (with_reducible refine R_block_normal ?_)))
        (repeat (with_reducible refine G_seq ?_))
        refine G_block ?_
        (repeat (with_reducible refine G_seq ?_))
        refine G_loop (ι := Nat) (fun q => 32 - q) (fun q => q ≤ 32) (fun q => [(0, .slice ao bs.length c), (2, .pointer (some ⟨b2, 0, none⟩)), (3, .bool false), (4, .pointer (some ⟨b4, 0, none⟩)), (5, .int .i64 (numAt bs 20 : Nat)), (6, .int .i64 (i.j : Int)), (7, .slice (subA ao c (24 + 40 * i.j) 1) (64 + 40 * i.j - (24 + 40 * i.j)) (c - (24 + 40 * i.j))), (8, .pointer (some ⟨b8, 0, none⟩)), (9, .int .i64 (q : Int))]) (fun q => ⟨b8, 47, 34, segL (segP (bs.drop (24 + 40 * i.j)) q), (0, 0)⟩ :: ⟨b4, 24, 5, [Value.int .i64 (numAt bs 4 : Nat), .int .i64 (numAt bs 8 : Nat), .int .i64 (numAt bs 12 : Nat), .int .i64 (numAt bs 16 : Nat), .slice i.sa i.j i.sc], (0, 0)⟩ :: ⟨b2, 24, 5, [.int .i64 0, .int .i64 0, .int .i64 0, .int .i64 0, .slice none 0 0], (0, 0)⟩ :: i.NS) 0 ?_ (⟨by first | rfl | decide, by first | rfl | decide, by first | rfl | decide, by first | rfl | decide, by first | rfl | decide, by first | rfl | decide, by first | rfl | decide, by first | rfl | decide, by first | rfl | decide, trivial⟩) (by repeat (first | exact .nil | exact Pick.rfl' _ | exact Pick.skip (Pick.rfl' _) | exact Pick.skip (Pick.skip (Pick.rfl' _)) | (apply Pick.cons; focus (first | exact .head | exact (.tail .head) | exact (.tail (.tail .head)) | exact (.tail (.tail (.tail .head))) | exact (.tail (.tail (.tail (.tail .head)))) | exact (.tail (.tail (.tail (.tail (.tail .head))))) | exact (.tail (.tail (.tail (.tail (.tail (.tail .head)))))) | exact (.tail (.tail (.tail (.tail (.tail (.tail (.tail .head))))))) | exact (.tail (.tail (.tail (.tail (.tail (.tail (.tail (.tail .head)))))))) | exact (.tail (.tail (.tail (.tail (.tail (.tail (.tail (.tail (.tail .head))))))))) | exact (.tail (.tail (.tail (.tail (.tail (.tail (.tail (.tail (.tail (.tail .head)))))))))) | exact (.tail (.tail (.tail (.tail (.tail (.tail (.tail (.tail (.tail (.tail (.tail .head))))))))))) | exact (.tail (.tail (.tail (.tail (.tail (.tail (.tail (.tail (.tail (.tail (.tail (.tail .head)))))))))))) | exact (.tail (.tail (.tail (.tail (.tail (.tail (.tail (.tail (.tail (.tail (.tail (.tail (.tail .head))))))))))))))))) ?_
        · omega
        intro q hq
        (repeat (with_reducible refine G_seq ?_))
        refine G_region ?_
        refine GL_y rfl rfl (Y_move rfl) ?_
        refine GL_y rfl rfl (Y_lssN (b := 32) rfl rfl) ?_
        refine GL_nil ?_
        (repeat (first | (with_reducible refine R_seq ?_) | (with_reducible refine R_block_normal ?_)))
        (repeat (with_reducible refine G_seq ?_))
        refine G_cond_dec rfl (fun ht65 => ?_) (fun ht65 => ?_)
        · -- yes
          (repeat (with_reducible refine G_seq ?_))
          refine G_skip ?_
          (repeat (first | (with_reducible refine R_seq ?_) | (with_reducible refine R_block_normal ?_)))
          (repeat (with_reducible refine G_seq ?_))
          refine G_block ?_
          have hxq : ((bs.drop (24 + 40 * i.j)).take 40)[8 + q]? = some (bAt (bs.drop (24 + 40 * i.j)) (8 + q)) := by
            rw [List.getElem?_take, if_pos (by omega)]; exact bAt_some (by rw [List.length_drop]; omega)
          (repeat (with_reducible refine G_seq ?_))
          refine G_region ?_
          refine GL_y rfl rfl (Y_move rfl) ?_
          refine GL_y rfl rfl (Y_move rfl) ?_
          refine GL_y rfl rfl (Y_move rfl) ?_
          refine GL_y rfl rfl (Y_addN (a := 8) rfl rfl (by omega)) ?_
          refine GL_y rfl rfl (Y_bAt (j := 8 + q) (bs := (bs.drop (24 + 40 * i.j)).take 40) hx rfl rfl hxq (by simp only [List.length_take, List.length_drop]; omega)) ?_
          refine GL_y rfl rfl (Y_bGet hx (by simp) rfl hxq) ?_
          refine GL_y rfl rfl (Y_field fd47_2 rfl) ?_
          refine GL_y rfl rfl (Y_idxA1 ar45 rfl rfl (by first | omega | decide)) ?_
          refine GL_s rfl (S_sc rfl sc5 rfl rfl (by first | exact .head | exact (.tail .head) | exact (.tail (.tail .head)) | exact (.tail (.tail (.tail .head))) | exact (.tail (.tail (.tail (.tail .head)))) | exact (.tail (.tail (.tail (.tail (.tail .head))))) | exact (.tail (.tail (.tail (.tail (.tail (.tail .head)))))) | exact (.tail (.tail (.tail (.tail (.tail (.tail (.tail .head))))))) | exact (.tail (.tail (.tail (.tail (.tail (.tail (.tail (.tail .head)))))))) | exact (.tail (.tail (.tail (.tail (.tail (.tail (.tail (.tail (.tail .head))))))))) | exact (.tail (.tail (.tail (.tail (.tail (.tail (.tail (.tail (.tail (.tail .head)))))))))) | exact (.tail (.tail (.tail (.tail (.tail (.tail (.tail (.tail (.tail (.tail (.tail .head))))))))))) | exact (.tail (.tail (.tail (.tail (.tail (.tail (.tail (.tail (.tail (.tail (.tail (.tail .head)))))))))))) | exact (.tail (.tail (.tail (.tail (.tail (.tail (.tail (.tail (.tail (.tail (.tail (.tail (.tail .head)))))))))))))) (segP_set _ ht65)) ?_
          refine GL_nil ?_
          (repeat (first | (with_reducible refine R_seq ?_) | (with_reducible refine R_block_normal ?_)))
          (repeat (with_reducible refine G_seq ?_))
          refine G_region ?_
          refine GL_y rfl rfl (Y_move rfl) ?_
          refine GL_y rfl rfl (Y_addN (b := 1) rfl rfl (by first | omega | decide)) ?_
          refine GL_y rfl rfl (Y_assign rfl) ?_
          refine GL_nil ?_
          (repeat (first | (with_reducible refine R_seq ?_) | (with_reducible refine R_block_normal ?_)))
          (repeat (with_reducible refine R_block_normal ?_))
          refine R_fam (q + 1) ?_ (⟨by first | rfl | decide, by first | rfl | decide, by first | rfl | decide, by first | rfl | decide, by first | rfl | decide, by first | rfl | decide, by first | rfl | decide, by first | rfl | decide, by first | rfl | decide, trivial⟩) (by repeat (first | exact .nil | exact Pick.rfl' _ | exact Pick.skip (Pick.rfl' _) | exact Pick.skip (Pick.skip (Pick.rfl' _)) | (apply Pick.cons; focus (first | exact .head | exact (.tail .head) | exact (.tail (.tail .head)) | exact (.tail (.tail (.tail .head))) | exact (.tail (.tail (.tail (.tail .head)))) | exact (.tail (.tail (.tail (.tail (.tail .head))))) | exact (.tail (.tail (.tail (.tail (.tail (.tail .head)))))) | exact (.tail (.tail (.tail (.tail (.tail (.tail (.tail .head))))))) | exact (.tail (.tail (.tail (.tail (.tail (.tail (.tail (.tail .head)))))))) | exact (.tail (.tail (.tail (.tail (.tail (.tail (.tail (.tail (.tail .head))))))))) | exact (.tail (.tail (.tail (.tail (.tail (.tail (.tail (.tail (.tail (.tail .head)))))))))) | exact (.tail (.tail (.tail (.tail (.tail (.tail (.tail (.tail (.tail (.tail (.tail .head))))))))))) | exact (.tail (.tail (.tail (.tail (.tail (.tail (.tail (.tail (.tail (.tail (.tail (.tail .head)))))))))))) | exact (.tail (.tail (.tail (.tail (.tail (.tail (.tail (.tail (.tail (.tail (.tail (.tail (.tail .head)))))))))))))))))
          exact ⟨by omega, by omega⟩
        · -- no
          (repeat (with_reducible refine G_seq ?_))
          refine G_exit ?_
          (repeat (first | (with_reducible refine R_then_exit ?_) | (with_reducible refine R_block_exit ?_) | (with_reducible refine R_block_other (by decide) ?_)))
          (repeat (first | (with_reducible refine R_seq ?_) | (with_reducible refine R_block_normal ?_)))
          obtain rfl : q = 32 := by omega
          (repeat (with_reducible refine G_seq ?_))
          refine G_region ?_
          refine GL_y rfl rfl (Y_field fd24_4 rfl) ?_
          refine GL_y rfl rfl (Y_loadS rfl sc22 (by first | exact .head _ | exact .tail _ (.head _) | exact .tail _ (.tail _ (.head _)) | exact .tail _ (.tail _ (.tail _ (.head _))) | exact .tail _ (.tail _ (.tail _ (.tail _ (.head _)))) | exact .tail _ (.tail _ (.tail _ (.tail _ (.tail _ (.head _))))) | exact .tail _ (.tail _ (.tail _ (.tail _ (.tail _ (.tail _ (.head _)))))) | exact .tail _ (.tail _ (.tail _ (.tail _ (.tail _ (.tail _ (.tail _ (.head _))))))) | exact .tail _ (.tail _ (.tail _ (.tail _ (.tail _ (.tail _ (.tail _ (.tail _ (.head _)))))))) | exact .tail _ (.tail _ (.tail _ (.tail _ (.tail _ (.tail _ (.tail _ (.tail _ (.tail _ (.head _))))))))) | exact .tail _ (.tail _ (.tail _ (.tail _ (.tail _ (.tail _ (.tail _ (.tail _ (.tail _ (.tail _ (.head _)))))))))) | exact .tail _ (.tail _ (.tail _ (.tail _ (.tail _ (.tail _ (.tail _ (.tail _ (.tail _ (.tail _ (.tail _ (.head _))))))))))) | exact .tail _ (.tail _ (.tail _ (.tail _ (.tail _ (.tail _ (.tail _ (.tail _ (.tail _ (.tail _ (.tail _ (.tail _ (.head _)))))))))))) | exact .tail _ (.tail _ (.tail _ (.tail _ (.tail _ (.tail _ (.tail _ (.tail _ (.tail _ (.tail _ (.tail _ (.tail _ (.tail _ (.head _)))))))))))))) (by rfl)) ?_
          refine GL_y rfl rfl (Y_loadA (xs := segL (segP (bs.drop (24 + 40 * i.j)) 32)) rfl (by first | exact .head _ | exact .tail _ (.head _) | exact .tail _ (.tail _ (.head _)) | exact .tail _ (.tail _ (.tail _ (.head _))) | exact .tail _ (.tail _ (.tail _ (.tail _ (.head _)))) | exact .tail _ (.tail _ (.tail _ (.tail _ (.tail _ (.head _))))) | exact .tail _ (.tail _ (.tail _ (.tail _ (.tail _ (.tail _ (.head _)))))) | exact .tail _ (.tail _ (.tail _ (.tail _ (.tail _ (.tail _ (.tail _ (.head _))))))) | exact .tail _ (.tail _ (.tail _ (.tail _ (.tail _ (.tail _ (.tail _ (.tail _ (.head _)))))))) | exact .tail _ (.tail _ (.tail _ (.tail _ (.tail _ (.tail _ (.tail _ (.tail _ (.tail _ (.head _))))))))) | exact .tail _ (.tail _ (.tail _ (.tail _ (.tail _ (.tail _ (.tail _ (.tail _ (.tail _ (.tail _ (.head _)))))))))) | exact .tail _ (.tail _ (.tail _ (.tail _ (.tail _ (.tail _ (.tail _ (.tail _ (.tail _ (.tail _ (.tail _ (.head _))))))))))) | exact .tail _ (.tail _ (.tail _ (.tail _ (.tail _ (.tail _ (.tail _ (.tail _ (.tail _ (.tail _ (.tail _ (.tail _ (.head _)))))))))))) | exact .tail _ (.tail _ (.tail _ (.tail _ (.tail _ (.tail _ (.tail _ (.tail _ (.tail _ (.tail _ (.tail _ (.tail _ (.tail _ (.head _)))))))))))))) ag47 (segL_len _)) ?_
          refine GL_w rfl rfl (W_bs1 (xs := segL (segP (bs.drop (24 + 40 * i.j)) 32)) Try.underlying22 el47 rfl (segL_len _) (by decide) (by decide) fun b79 => ?_)
          refine GL_w rfl rfl (W_appRec (r := segsAt bs i.j) (a := segOf (bs.drop (24 + 40 * i.j))) segL_len segL_all (by decide) (by decide) Try.underlying22 el47 hO rfl (segsAt_len _ _).symm rfl (by rw [segsAt_len]; omega) (.skip (.skip (.skip (.skip (Pick.rfl' _))))) (by first | exact .head _ | exact .tail _ (.head _) | exact .tail _ (.tail _ (.head _)) | exact .tail _ (.tail _ (.tail _ (.head _))) | exact .tail _ (.tail _ (.tail _ (.tail _ (.head _)))) | exact .tail _ (.tail _ (.tail _ (.tail _ (.tail _ (.head _))))) | exact .tail _ (.tail _ (.tail _ (.tail _ (.tail _ (.tail _ (.head _)))))) | exact .tail _ (.tail _ (.tail _ (.tail _ (.tail _ (.tail _ (.tail _ (.head _))))))) | exact .tail _ (.tail _ (.tail _ (.tail _ (.tail _ (.tail _ (.tail _ (.tail _ (.head _)))))))) | exact .tail _ (.tail _ (.tail _ (.tail _ (.tail _ (.tail _ (.tail _ (.tail _ (.tail _ (.head _))))))))) | exact .tail _ (.tail _ (.tail _ (.tail _ (.tail _ (.tail _ (.tail _ (.tail _ (.tail _ (.tail _ (.head _)))))))))) | exact .tail _ (.tail _ (.tail _ (.tail _ (.tail _ (.tail _ (.tail _ (.tail _ (.tail _ (.tail _ (.tail _ (.head _))))))))))) | exact .tail _ (.tail _ (.tail _ (.tail _ (.tail _ (.tail _ (.tail _ (.tail _ (.tail _ (.tail _ (.tail _ (.tail _ (.head _)))))))))))) | exact .tail _ (.tail _ (.tail _ (.tail _ (.tail _ (.tail _ (.tail _ (.tail _ (.tail _ (.tail _ (.tail _ (.tail _ (.tail _ (.head _)))))))))))))) fun b80 c80 h80 => ?_)
          refine GL_y rfl rfl (Y_field fd24_4 rfl) ?_
          refine GL_s rfl (S_sc rfl sc22 rfl rfl (by first | exact .head | exact (.tail .head) | exact (.tail (.tail .head)) | exact (.tail (.tail (.tail .head))) | exact (.tail (.tail (.tail (.tail .head)))) | exact (.tail (.tail (.tail (.tail (.tail .head))))) | exact (.tail (.tail (.tail (.tail (.tail (.tail .head)))))) | exact (.tail (.tail (.tail (.tail (.tail (.tail (.tail .head))))))) | exact (.tail (.tail (.tail (.tail (.tail (.tail (.tail (.tail .head)))))))) | exact (.tail (.tail (.tail (.tail (.tail (.tail (.tail (.tail (.tail .head))))))))) | exact (.tail (.tail (.tail (.tail (.tail (.tail (.tail (.tail (.tail (.tail .head)))))))))) | exact (.tail (.tail (.tail (.tail (.tail (.tail (.tail (.tail (.tail (.tail (.tail .head))))))))))) | exact (.tail (.tail (.tail (.tail (.tail (.tail (.tail (.tail (.tail (.tail (.tail (.tail .head)))))))))))) | exact (.tail (.tail (.tail (.tail (.tail (.tail (.tail (.tail (.tail (.tail (.tail (.tail (.tail .head)))))))))))))) (by rfl)) ?_
          refine GL_nil ?_
          (repeat (first | (with_reducible refine R_seq ?_) | (with_reducible refine R_block_normal ?_)))
          (repeat (with_reducible refine G_seq ?_))
          refine G_region ?_
          refine GL_y rfl rfl (Y_move rfl) ?_
          refine GL_y rfl rfl (Y_addN (b := 1) rfl rfl (by first | omega | decide)) ?_
          refine GL_y rfl rfl (Y_assign rfl) ?_
          refine GL_nil ?_
          (repeat (first | (with_reducible refine R_seq ?_) | (with_reducible refine R_block_normal ?_)))
          (repeat (with_reducible refine R_block_normal ?_))
          rw [show segsAt bs i.j ++ [segOf (bs.drop (24 + 40 * i.j))] = segsAt bs (i.j + 1) from (segsAt_succ _ _).symm, segsAt_len]
          refine R_fam ⟨i.j + 1, [⟨b80, 47, c80 * 34, recL segL (segsAt bs (i.j + 1)), (0, 0)⟩], some ⟨b80, 0, none⟩, c80⟩ ?_ (⟨by first | rfl | decide, by first | rfl | decide, by first | rfl | decide, by first | rfl | decide, by first | rfl | decide, by first | rfl | decide, trivial⟩) (by repeat (first | exact .nil | exact Pick.rfl' _ | exact Pick.skip (Pick.rfl' _) | exact Pick.skip (Pick.skip (Pick.rfl' _)) | (apply Pick.cons; focus (first | exact .head | exact (.tail .head) | exact (.tail (.tail .head)) | exact (.tail (.tail (.tail .head))) | exact (.tail (.tail (.tail (.tail .head)))) | exact (.tail (.tail (.tail (.tail (.tail .head))))) | exact (.tail (.tail (.tail (.tail (.tail (.tail .head)))))) | exact (.tail (.tail (.tail (.tail (.tail (.tail (.tail .head))))))) | exact (.tail (.tail (.tail (.tail (.tail (.tail (.tail (.tail .head)))))))) | exact (.tail (.tail (.tail (.tail (.tail (.tail (.tail (.tail (.tail .head))))))))) | exact (.tail (.tail (.tail (.tail (.tail (.tail (.tail (.tail (.tail (.tail .head)))))))))) | exact (.tail (.tail (.tail (.tail (.tail (.tail (.tail (.tail (.tail (.tail (.tail .head))))))))))) | exact (.tail (.tail (.tail (.tail (.tail (.tail (.tail (.tail (.tail (.tail (.tail (.tail .head)))))))))))) | exact (.tail (.tail (.tail (.tail (.tail (.tail (.tail (.tail (.tail (.tail (.tail (.tail (.tail .head)))))))))))))))))
          exact ⟨⟨by simp only; omega, .inr ⟨b80, rfl, rfl⟩⟩, by simp only; omega⟩
    · -- no
      (repeat (with_reducible refine G_seq ?_))
      refine G_exit ?_
      (repeat (first | (with_reducible refine R_then_exit ?_) | (with_reducible refine R_block_exit ?_) | (with_reducible refine R_block_other (by decide) ?_)))
      (repeat (first | (with_reducible refine R_seq ?_) | (with_reducible refine R_block_normal ?_)))
      have hjn : i.j = numAt bs 20 := by omega
      have hM : [Value.int .i64 (numAt bs 4 : Nat), .int .i64 (numAt bs 8 : Nat), .int .i64 (numAt bs 12 : Nat), .int .i64 (numAt bs 16 : Nat), .slice i.sa i.j i.sc] = manL (parseD bs) i.sa i.sc := by
        show _ = [Value.int .i64 (numAt bs 4 : Nat), .int .i64 (numAt bs 8 : Nat), .int .i64 (numAt bs 12 : Nat), .int .i64 (numAt bs 16 : Nat), .slice i.sa (segsAt bs (numAt bs 20)).length i.sc]
        rw [segsAt_len, hjn]
      have hOf : OwnR segL 47 34 i.NS i.sa i.sc (parseD bs).segs := by
        show OwnR segL 47 34 i.NS i.sa i.sc (segsAt bs (numAt bs 20))
        rw [← hjn]; exact hO
      refine G_blk hM ?_
      (repeat (with_reducible refine G_seq ?_))
      refine G_draw [] 11 rfl (by kernel_rfl) ?_
      refine GA_l 0 rfl (by kernel_rfl) (by kernel_rfl) (by kernel_rfl) (fun _ _ _ h => h) rfl rfl rfl rfl (Y_loadA (b := b4) (xs := manL (parseD bs) i.sa i.sc) rfl (by first | exact .head _ | exact .tail _ (.head _) | exact .tail _ (.tail _ (.head _)) | exact .tail _ (.tail _ (.tail _ (.head _))) | exact .tail _ (.tail _ (.tail _ (.tail _ (.head _)))) | exact .tail _ (.tail _ (.tail _ (.tail _ (.tail _ (.head _))))) | exact .tail _ (.tail _ (.tail _ (.tail _ (.tail _ (.tail _ (.head _)))))) | exact .tail _ (.tail _ (.tail _ (.tail _ (.tail _ (.tail _ (.tail _ (.head _))))))) | exact .tail _ (.tail _ (.tail _ (.tail _ (.tail _ (.tail _ (.tail _ (.tail _ (.head _)))))))) | exact .tail _ (.tail _ (.tail _ (.tail _ (.tail _ (.tail _ (.tail _ (.tail _ (.tail _ (.head _))))))))) | exact .tail _ (.tail _ (.tail _ (.tail _ (.tail _ (.tail _ (.tail _ (.tail _ (.tail _ (.tail _ (.head _)))))))))) | exact .tail _ (.tail _ (.tail _ (.tail _ (.tail _ (.tail _ (.tail _ (.tail _ (.tail _ (.tail _ (.tail _ (.head _))))))))))) | exact .tail _ (.tail _ (.tail _ (.tail _ (.tail _ (.tail _ (.tail _ (.tail _ (.tail _ (.tail _ (.tail _ (.tail _ (.head _)))))))))))) | exact .tail _ (.tail _ (.tail _ (.tail _ (.tail _ (.tail _ (.tail _ (.tail _ (.tail _ (.tail _ (.tail _ (.tail _ (.tail _ (.head _)))))))))))))) ag24 rfl) ?_
      refine GA_one 1 (by kernel_rfl) ?_
      refine GO_call rfl rfl rfl rfl rfl rfl Try.call9 (fun w hw => refMay_is (m := parseD bs) (ao := i.sa) (c := i.sc) (hOf.sl ((show SL _ (⟨b4, 24, 5, manL (parseD bs) i.sa i.sc, (0, 0)⟩ :: ⟨b2, 24, 5, [.int .i64 0, .int .i64 0, .int .i64 0, .int .i64 0, .slice none 0 0], (0, 0)⟩ :: i.NS) _ _ from hw).tail.tail)) (by show (segsAt bs _).length ≤ 1000; rw [segsAt_len]; omega) hm) ?_
      rintro _ _ ⟨rfl, rfl⟩
      refine GA_y 2 rfl (by kernel_rfl) (by kernel_rfl) (by kernel_rfl) (fun _ _ _ h => h) rfl rfl rfl (Y_not rfl) ?_
      refine GA_y 3 rfl (by kernel_rfl) (by kernel_rfl) (by kernel_rfl) (fun _ _ _ h => h) rfl rfl rfl (Y_move rfl) ?_
      refine GA_skip 4 rfl (by kernel_rfl) (by kernel_rfl) (by kernel_rfl) (fun _ _ _ h => h) rfl rfl rfl ?_
      refine GA_skip 5 rfl (by kernel_rfl) (by kernel_rfl) (by kernel_rfl) (fun _ _ _ h => h) rfl rfl rfl ?_
      refine GA_skip 6 rfl (by kernel_rfl) (by kernel_rfl) (by kernel_rfl) (fun _ _ _ h => h) rfl rfl rfl ?_
      refine GA_skip 7 rfl (by kernel_rfl) (by kernel_rfl) (by kernel_rfl) (fun _ _ _ h => h) rfl rfl rfl ?_
      refine GA_skip 8 rfl (by kernel_rfl) (by kernel_rfl) (by kernel_rfl) (fun _ _ _ h => h) rfl rfl rfl ?_
      refine GA_skip 9 rfl (by kernel_rfl) (by kernel_rfl) (by kernel_rfl) (fun _ _ _ h => h) rfl rfl rfl ?_
      refine GA_y 10 rfl (by kernel_rfl) (by kernel_rfl) (by kernel_rfl) (fun _ _ _ h => h) rfl rfl rfl (Y_pick rfl rfl rfl rfl) ?_
      refine GA_done (by kernel_rfl) ?_
      (repeat (first | (with_reducible refine R_seq ?_) | (with_reducible refine R_block_normal ?_)))
      (repeat (with_reducible refine G_seq ?_))
      refine G_cond_t rfl (by first | rfl | decide | (simp; done) | (simp; omega)) ?_
      (repeat (with_reducible refine G_seq ?_))
      refine G_region ?_
      refine GL_y rfl rfl (Y_build (vs := []) rfl build24) ?_
      refine GL_s rfl (S_all rfl rfl ag24 (by rfl) (by rfl) (by first | exact .head | exact (.tail .head) | exact (.tail (.tail .head)) | exact (.tail (.tail (.tail .head))) | exact (.tail (.tail (.tail (.tail .head)))) | exact (.tail (.tail (.tail (.tail (.tail .head))))) | exact (.tail (.tail (.tail (.tail (.tail (.tail .head)))))) | exact (.tail (.tail (.tail (.tail (.tail (.tail (.tail .head))))))) | exact (.tail (.tail (.tail (.tail (.tail (.tail (.tail (.tail .head)))))))) | exact (.tail (.tail (.tail (.tail (.tail (.tail (.tail (.tail (.tail .head))))))))) | exact (.tail (.tail (.tail (.tail (.tail (.tail (.tail (.tail (.tail (.tail .head)))))))))) | exact (.tail (.tail (.tail (.tail (.tail (.tail (.tail (.tail (.tail (.tail (.tail .head))))))))))) | exact (.tail (.tail (.tail (.tail (.tail (.tail (.tail (.tail (.tail (.tail (.tail (.tail .head)))))))))))) | exact (.tail (.tail (.tail (.tail (.tail (.tail (.tail (.tail (.tail (.tail (.tail (.tail (.tail .head)))))))))))))) (by rfl)) ?_
      refine GL_y rfl rfl (Y_assign rfl) ?_
      refine GL_nil ?_
      (repeat (first | (with_reducible refine R_seq ?_) | (with_reducible refine R_block_normal ?_)))
      (repeat (with_reducible refine G_seq ?_))
      refine G_ret ?_
      (repeat (first | (with_reducible refine R_then_ret ?_) | (with_reducible refine R_block_ret ?_)))
      exact R_ret (.ag rfl (by first | exact .head _ | exact .tail _ (.head _) | exact .tail _ (.tail _ (.head _)) | exact .tail _ (.tail _ (.tail _ (.head _))) | exact .tail _ (.tail _ (.tail _ (.tail _ (.head _)))) | exact .tail _ (.tail _ (.tail _ (.tail _ (.tail _ (.head _))))) | exact .tail _ (.tail _ (.tail _ (.tail _ (.tail _ (.tail _ (.head _)))))) | exact .tail _ (.tail _ (.tail _ (.tail _ (.tail _ (.tail _ (.tail _ (.head _))))))) | exact .tail _ (.tail _ (.tail _ (.tail _ (.tail _ (.tail _ (.tail _ (.tail _ (.head _)))))))) | exact .tail _ (.tail _ (.tail _ (.tail _ (.tail _ (.tail _ (.tail _ (.tail _ (.tail _ (.head _))))))))) | exact .tail _ (.tail _ (.tail _ (.tail _ (.tail _ (.tail _ (.tail _ (.tail _ (.tail _ (.tail _ (.head _)))))))))) | exact .tail _ (.tail _ (.tail _ (.tail _ (.tail _ (.tail _ (.tail _ (.tail _ (.tail _ (.tail _ (.tail _ (.head _))))))))))) | exact .tail _ (.tail _ (.tail _ (.tail _ (.tail _ (.tail _ (.tail _ (.tail _ (.tail _ (.tail _ (.tail _ (.tail _ (.head _)))))))))))) | exact .tail _ (.tail _ (.tail _ (.tail _ (.tail _ (.tail _ (.tail _ (.tail _ (.tail _ (.tail _ (.tail _ (.tail _ (.tail _ (.head _)))))))))))))) (by exact ag24) (.tmp rfl .nil)) [] .nil ⟨rfl, rfl⟩
set_option maxHeartbeats 4000000 in
theorem refp_ne {ao : Option Addr} {c : Nat} {bs : List UInt8} {w : World} (hs : SlAt w ao (B bs)) (hc : bs.length ≤ c) (h24 : 24 ≤ bs.length) (h8 : numAt bs 20 ≤ 8) (hl : bs.length = 24 + 40 * numAt bs 20) (hm : mayM (parseD bs) = true) (hb : ¬ bytesM (parseD bs) = bs) : FnAt Try.prog 13 [.slice ao bs.length c] [] w (Ret fun v N => v = .tuple #[.agg (manL zeroM none 0).toArray, .bool false] ∧ N = []) := by
  refine FnAt.intro Try.func13 rfl Try.ntmps13 rfl _ rfl ?_
  (repeat (with_reducible refine G_seq ?_))
  refine G_region ?_
  refine GL_w rfl rfl (W_alloc zr24 fun b2 => ?_)
  refine GL_y rfl rfl (Y_assign rfl) ?_
  refine GL_nil ?_
  (repeat (first | (with_reducible refine R_seq ?_) | (with_reducible refine R_block_normal ?_)))
  (repeat (with_reducible refine G_seq ?_))
  refine G_region ?_
  refine GL_w rfl rfl (W_alloc zr24 fun b4 => ?_)
  refine GL_nil ?_
  (repeat (first | (with_reducible refine R_seq ?_) | (with_reducible refine R_block_normal ?_)))
  (repeat (with_reducible refine G_seq ?_))
  refine G_region ?_
  refine GL_y rfl rfl (Y_move rfl) ?_
  refine GL_y rfl rfl (Y_len sl25 rfl) ?_
  refine GL_y rfl rfl (Y_lssN (b := 24) rfl rfl) ?_
  refine GL_nil ?_
  (repeat (first | (with_reducible refine R_seq ?_) | (with_reducible refine R_block_normal ?_)))
  (repeat (with_reducible refine G_seq ?_))
  refine G_cond_f rfl (by simp; omega) ?_
  (repeat (with_reducible refine G_seq ?_))
  refine G_skip ?_
  (repeat (first | (with_reducible refine R_seq ?_) | (with_reducible refine R_block_normal ?_)))
  (repeat (with_reducible refine G_seq ?_))
  refine G_region ?_
  refine GL_y rfl rfl (Y_move rfl) ?_
  refine GL_y rfl rfl (Y_slS (vl := some _) (vh := some _) (kl := 4) (kh := 8) sl25 rfl rfl rfl ⟨_, rfl⟩ ⟨_, rfl⟩ (by omega) (by omega) hc) ?_
  refine GL_call rfl rfl rfl rfl Try.call26 .nil (fun w hw => number_is (bs := (bs.drop 4).take 4) ((subB (lo := 4) hs hc 4).keep hw (by simp)) (by rw [List.length_take, List.length_drop]; omega) (by rw [List.length_take, List.length_drop]; omega)) ?_
  rintro _ _ ⟨rfl, rfl⟩
  rw [show numAt ((bs.drop 4).take 4) 0 = numAt bs 4 from numAt_take (l := bs) (p := 4) (n := 4) (i := 0) (by decide)]
  refine GL_y rfl rfl (Y_field fd24_0 rfl) ?_
  refine GL_s rfl (S_sc rfl sc3 rfl rfl (by first | exact .head | exact (.tail .head) | exact (.tail (.tail .head)) | exact (.tail (.tail (.tail .head))) | exact (.tail (.tail (.tail (.tail .head)))) | exact (.tail (.tail (.tail (.tail (.tail .head))))) | exact (.tail (.tail (.tail (.tail (.tail (.tail .head)))))) | exact (.tail (.tail (.tail (.tail (.tail (.tail (.tail .head))))))) | exact (.tail (.tail (.tail (.tail (.tail (.tail (.tail (.tail .head)))))))) | exact (.tail (.tail (.tail (.tail (.tail (.tail (.tail (.tail (.tail .head))))))))) | exact (.tail (.tail (.tail (.tail (.tail (.tail (.tail (.tail (.tail (.tail .head)))))))))) | exact (.tail (.tail (.tail (.tail (.tail (.tail (.tail (.tail (.tail (.tail (.tail .head))))))))))) | exact (.tail (.tail (.tail (.tail (.tail (.tail (.tail (.tail (.tail (.tail (.tail (.tail .head)))))))))))) | exact (.tail (.tail (.tail (.tail (.tail (.tail (.tail (.tail (.tail (.tail (.tail (.tail (.tail .head)))))))))))))) (by rfl)) ?_
  refine GL_nil ?_
  (repeat (first | (with_reducible refine R_seq ?_) | (with_reducible refine R_block_normal ?_)))
  (repeat (with_reducible refine G_seq ?_))
  refine G_region ?_
  refine GL_y rfl rfl (Y_move rfl) ?_
  refine GL_y rfl rfl (Y_slS (vl := some _) (vh := some _) (kl := 8) (kh := 12) sl25 rfl rfl rfl ⟨_, rfl⟩ ⟨_, rfl⟩ (by omega) (by omega) hc) ?_
  refine GL_call rfl rfl rfl rfl Try.call26 .nil (fun w hw => number_is (bs := (bs.drop 8).take 4) ((subB (lo := 8) hs hc 4).keep hw (by simp)) (by rw [List.length_take, List.length_drop]; omega) (by rw [List.length_take, List.length_drop]; omega)) ?_
  rintro _ _ ⟨rfl, rfl⟩
  rw [show numAt ((bs.drop 8).take 4) 0 = numAt bs 8 from numAt_take (l := bs) (p := 8) (n := 4) (i := 0) (by decide)]
  refine GL_y rfl rfl (Y_field fd24_1 rfl) ?_
  refine GL_s rfl (S_sc rfl sc3 rfl rfl (by first | exact .head | exact (.tail .head) | exact (.tail (.tail .head)) | exact (.tail (.tail (.tail .head))) | exact (.tail (.tail (.tail (.tail .head)))) | exact (.tail (.tail (.tail (.tail (.tail .head))))) | exact (.tail (.tail (.tail (.tail (.tail (.tail .head)))))) | exact (.tail (.tail (.tail (.tail (.tail (.tail (.tail .head))))))) | exact (.tail (.tail (.tail (.tail (.tail (.tail (.tail (.tail .head)))))))) | exact (.tail (.tail (.tail (.tail (.tail (.tail (.tail (.tail (.tail .head))))))))) | exact (.tail (.tail (.tail (.tail (.tail (.tail (.tail (.tail (.tail (.tail .head)))))))))) | exact (.tail (.tail (.tail (.tail (.tail (.tail (.tail (.tail (.tail (.tail (.tail .head))))))))))) | exact (.tail (.tail (.tail (.tail (.tail (.tail (.tail (.tail (.tail (.tail (.tail (.tail .head)))))))))))) | exact (.tail (.tail (.tail (.tail (.tail (.tail (.tail (.tail (.tail (.tail (.tail (.tail (.tail .head)))))))))))))) (by rfl)) ?_
  refine GL_nil ?_
  (repeat (first | (with_reducible refine R_seq ?_) | (with_reducible refine R_block_normal ?_)))
  (repeat (with_reducible refine G_seq ?_))
  refine G_region ?_
  refine GL_y rfl rfl (Y_move rfl) ?_
  refine GL_y rfl rfl (Y_slS (vl := some _) (vh := some _) (kl := 12) (kh := 16) sl25 rfl rfl rfl ⟨_, rfl⟩ ⟨_, rfl⟩ (by omega) (by omega) hc) ?_
  refine GL_call rfl rfl rfl rfl Try.call26 .nil (fun w hw => number_is (bs := (bs.drop 12).take 4) ((subB (lo := 12) hs hc 4).keep hw (by simp)) (by rw [List.length_take, List.length_drop]; omega) (by rw [List.length_take, List.length_drop]; omega)) ?_
  rintro _ _ ⟨rfl, rfl⟩
  rw [show numAt ((bs.drop 12).take 4) 0 = numAt bs 12 from numAt_take (l := bs) (p := 12) (n := 4) (i := 0) (by decide)]
  refine GL_y rfl rfl (Y_field fd24_2 rfl) ?_
  refine GL_s rfl (S_sc rfl sc3 rfl rfl (by first | exact .head | exact (.tail .head) | exact (.tail (.tail .head)) | exact (.tail (.tail (.tail .head))) | exact (.tail (.tail (.tail (.tail .head)))) | exact (.tail (.tail (.tail (.tail (.tail .head))))) | exact (.tail (.tail (.tail (.tail (.tail (.tail .head)))))) | exact (.tail (.tail (.tail (.tail (.tail (.tail (.tail .head))))))) | exact (.tail (.tail (.tail (.tail (.tail (.tail (.tail (.tail .head)))))))) | exact (.tail (.tail (.tail (.tail (.tail (.tail (.tail (.tail (.tail .head))))))))) | exact (.tail (.tail (.tail (.tail (.tail (.tail (.tail (.tail (.tail (.tail .head)))))))))) | exact (.tail (.tail (.tail (.tail (.tail (.tail (.tail (.tail (.tail (.tail (.tail .head))))))))))) | exact (.tail (.tail (.tail (.tail (.tail (.tail (.tail (.tail (.tail (.tail (.tail (.tail .head)))))))))))) | exact (.tail (.tail (.tail (.tail (.tail (.tail (.tail (.tail (.tail (.tail (.tail (.tail (.tail .head)))))))))))))) (by rfl)) ?_
  refine GL_nil ?_
  (repeat (first | (with_reducible refine R_seq ?_) | (with_reducible refine R_block_normal ?_)))
  (repeat (with_reducible refine G_seq ?_))
  refine G_region ?_
  refine GL_y rfl rfl (Y_move rfl) ?_
  refine GL_y rfl rfl (Y_slS (vl := some _) (vh := some _) (kl := 16) (kh := 20) sl25 rfl rfl rfl ⟨_, rfl⟩ ⟨_, rfl⟩ (by omega) (by omega) hc) ?_
  refine GL_call rfl rfl rfl rfl Try.call26 .nil (fun w hw => number_is (bs := (bs.drop 16).take 4) ((subB (lo := 16) hs hc 4).keep hw (by simp)) (by rw [List.length_take, List.length_drop]; omega) (by rw [List.length_take, List.length_drop]; omega)) ?_
  rintro _ _ ⟨rfl, rfl⟩
  rw [show numAt ((bs.drop 16).take 4) 0 = numAt bs 16 from numAt_take (l := bs) (p := 16) (n := 4) (i := 0) (by decide)]
  refine GL_y rfl rfl (Y_field fd24_3 rfl) ?_
  refine GL_s rfl (S_sc rfl sc3 rfl rfl (by first | exact .head | exact (.tail .head) | exact (.tail (.tail .head)) | exact (.tail (.tail (.tail .head))) | exact (.tail (.tail (.tail (.tail .head)))) | exact (.tail (.tail (.tail (.tail (.tail .head))))) | exact (.tail (.tail (.tail (.tail (.tail (.tail .head)))))) | exact (.tail (.tail (.tail (.tail (.tail (.tail (.tail .head))))))) | exact (.tail (.tail (.tail (.tail (.tail (.tail (.tail (.tail .head)))))))) | exact (.tail (.tail (.tail (.tail (.tail (.tail (.tail (.tail (.tail .head))))))))) | exact (.tail (.tail (.tail (.tail (.tail (.tail (.tail (.tail (.tail (.tail .head)))))))))) | exact (.tail (.tail (.tail (.tail (.tail (.tail (.tail (.tail (.tail (.tail (.tail .head))))))))))) | exact (.tail (.tail (.tail (.tail (.tail (.tail (.tail (.tail (.tail (.tail (.tail (.tail .head)))))))))))) | exact (.tail (.tail (.tail (.tail (.tail (.tail (.tail (.tail (.tail (.tail (.tail (.tail (.tail .head)))))))))))))) (by rfl)) ?_
  refine GL_nil ?_
  (repeat (first | (with_reducible refine R_seq ?_) | (with_reducible refine R_block_normal ?_)))
  (repeat (with_reducible refine G_seq ?_))
  refine G_region ?_
  refine GL_y rfl rfl (Y_move rfl) ?_
  refine GL_y rfl rfl (Y_slS (vl := some _) (vh := some _) (kl := 20) (kh := 24) sl25 rfl rfl rfl ⟨_, rfl⟩ ⟨_, rfl⟩ (by omega) (by omega) hc) ?_
  refine GL_call rfl rfl rfl rfl Try.call26 .nil (fun w hw => number_is (bs := (bs.drop 20).take 4) ((subB (lo := 20) hs hc 4).keep hw (by simp)) (by rw [List.length_take, List.length_drop]; omega) (by rw [List.length_take, List.length_drop]; omega)) ?_
  rintro _ _ ⟨rfl, rfl⟩
  rw [show numAt ((bs.drop 20).take 4) 0 = numAt bs 20 from numAt_take (l := bs) (p := 20) (n := 4) (i := 0) (by decide)]
  refine GL_y rfl rfl (Y_assign rfl) ?_
  refine GL_nil ?_
  (repeat (first | (with_reducible refine R_seq ?_) | (with_reducible refine R_block_normal ?_)))
  (repeat (with_reducible refine G_seq ?_))
  refine G_region ?_
  refine GL_y rfl rfl (Y_move rfl) ?_
  refine GL_y rfl rfl (Y_gtrN (b := 8) rfl rfl) ?_
  refine GL_y rfl rfl (Y_move rfl) ?_
  refine GL_bool 35 rfl (fun g35 => ?_) (fun g35 => ?_)
  · -- g35 True
    exact absurd g35 (by simp; omega)
  · -- g35 False
    refine GL_y rfl rfl (Y_move rfl) ?_
    refine GL_y rfl rfl (Y_len sl25 rfl) ?_
    refine GL_y rfl rfl (Y_move rfl) ?_
    refine GL_y rfl rfl (Y_mulN (a := 40) rfl rfl (by omega)) ?_
    refine GL_y rfl rfl (Y_addN (a := 24) rfl rfl (by omega)) ?_
    refine GL_y rfl rfl (Y_neqN rfl rfl) ?_
    refine GL_y rfl rfl (Y_pick rfl rfl rfl rfl) ?_
    refine GL_nil ?_
    (repeat (first | (with_reducible refine R_seq ?_) | (with_reducible refine R_block_normal ?_)))
    (repeat (with_reducible refine G_seq ?_))
    refine G_cond_f rfl (by simp; omega) ?_
    (repeat (with_reducible refine G_seq ?_))
    refine G_skip ?_
    (repeat (first | (with_reducible refine R_seq ?_) | (with_reducible refine R_block_normal ?_)))
    (repeat (with_reducible refine G_seq ?_))
    refine G_region ?_
    refine GL_y rfl rfl (Y_assign rfl) ?_
    refine GL_nil ?_
    (repeat (first | (with_reducible refine R_seq ?_) | (with_reducible refine R_block_normal ?_)))
    (repeat (with_reducible refine G_seq ?_))
    refine G_block ?_
    (repeat (with_reducible refine G_seq ?_))
    refine G_loop (ι := RI) (fun i => numAt bs 20 - i.j) (fun i => i.j ≤ numAt bs 20 ∧ OwnR segL 47 34 i.NS i.sa i.sc (segsAt bs i.j)) (fun i => [(0, .slice ao bs.length c), (2, .pointer (some ⟨b2, 0, none⟩)), (3, .bool false), (4, .pointer (some ⟨b4, 0, none⟩)), (5, .int .i64 (numAt bs 20 : Nat)), (6, .int .i64 (i.j : Int))]) (fun i => ⟨b4, 24, 5, [Value.int .i64 (numAt bs 4 : Nat), .int .i64 (numAt bs 8 : Nat), .int .i64 (numAt bs 12 : Nat), .int .i64 (numAt bs 16 : Nat), .slice i.sa i.j i.sc], (0, 0)⟩ :: ⟨b2, 24, 5, [.int .i64 0, .int .i64 0, .int .i64 0, .int .i64 0, .slice none 0 0], (0, 0)⟩ :: i.NS) ⟨0, [], none, 0⟩ ?_ (⟨by first | rfl | decide, by first | rfl | decide, by first | rfl | decide, by first | rfl | decide, by first | rfl | decide, by first | rfl | decide, trivial⟩) (by repeat (first | exact .nil | exact Pick.rfl' _ | exact Pick.skip (Pick.rfl' _) | exact Pick.skip (Pick.skip (Pick.rfl' _)) | (apply Pick.cons; focus (first | exact .head | exact (.tail .head) | exact (.tail (.tail .head)) | exact (.tail (.tail (.tail .head))) | exact (.tail (.tail (.tail (.tail .head)))) | exact (.tail (.tail (.tail (.tail (.tail .head))))) | exact (.tail (.tail (.tail (.tail (.tail (.tail .head)))))) | exact (.tail (.tail (.tail (.tail (.tail (.tail (.tail .head))))))) | exact (.tail (.tail (.tail (.tail (.tail (.tail (.tail (.tail .head)))))))) | exact (.tail (.tail (.tail (.tail (.tail (.tail (.tail (.tail (.tail .head))))))))) | exact (.tail (.tail (.tail (.tail (.tail (.tail (.tail (.tail (.tail (.tail .head)))))))))) | exact (.tail (.tail (.tail (.tail (.tail (.tail (.tail (.tail (.tail (.tail (.tail .head))))))))))) | exact (.tail (.tail (.tail (.tail (.tail (.tail (.tail (.tail (.tail (.tail (.tail (.tail .head)))))))))))) | exact (.tail (.tail (.tail (.tail (.tail (.tail (.tail (.tail (.tail (.tail (.tail (.tail (.tail .head))))))))))))))))) ?_
    · exact ⟨by simp, .inl ⟨rfl, rfl, rfl, rfl⟩⟩
    intro i ⟨hi, hO⟩
    (repeat (with_reducible refine G_seq ?_))
    refine G_region ?_
    refine GL_y rfl rfl (Y_move rfl) ?_
    refine GL_y rfl rfl (Y_move rfl) ?_
    refine GL_y rfl rfl (Y_lssN rfl rfl) ?_
    refine GL_nil ?_
    (repeat (first | (with_reducible refine R_seq ?_) | (with_reducible refine R_block_normal ?_)))
    (repeat (with_reducible refine G_seq ?_))
    refine G_cond_dec rfl (fun ht46 => ?_) (fun ht46 => ?_)
    · -- yes
      (repeat (with_reducible refine G_seq ?_))
      refine G_skip ?_
      (repeat (first | (with_reducible refine R_seq ?_) | (with_reducible refine R_block_normal ?_)))
      (repeat (with_reducible refine G_seq ?_))
      refine G_block ?_
      have hx := subB (lo := 24 + 40 * i.j) hs hc 40
      have hxc : ((bs.drop (24 + 40 * i.j)).take 40).length ≤ c - (24 + 40 * i.j) := by simp only [List.length_take, List.length_drop]; omega
      (repeat (with_reducible refine G_seq ?_))
      refine G_region ?_
      refine GL_y rfl rfl (Y_move rfl) ?_
      refine GL_y rfl rfl (Y_move rfl) ?_
      refine GL_y rfl rfl (Y_mulN (a := 40) rfl rfl (by omega)) ?_
      refine GL_y rfl rfl (Y_addN (a := 24) rfl rfl (by omega)) ?_
      refine GL_y rfl rfl (Y_move rfl) ?_
      refine GL_y rfl rfl (Y_mulN (a := 40) rfl rfl (by omega)) ?_
      refine GL_y rfl rfl (Y_addN (a := 64) rfl rfl (by omega)) ?_
      refine GL_y rfl rfl (Y_slS (vl := some _) (vh := some _) (kl := 24 + 40 * i.j) (kh := 64 + 40 * i.j) sl25 rfl rfl rfl ⟨_, rfl⟩ ⟨_, rfl⟩ (by omega) (by omega) hc) ?_
      refine GL_y rfl rfl (Y_assign rfl) ?_
      refine GL_nil ?_
      (repeat (first | (with_reducible refine R_seq ?_) | (with_reducible refine R_block_normal ?_)))
      (repeat (with_reducible refine G_seq ?_))
      refine G_draw [8] 9 rfl (by kernel_rfl) ?_
      refine GA_y 0 rfl (by kernel_rfl) (by kernel_rfl) (by kernel_rfl) (fun _ _ _ h => h) rfl rfl rfl (Y_move rfl) ?_
      refine GA_y 1 rfl (by kernel_rfl) (by kernel_rfl) (by kernel_rfl) (fun _ _ _ h => h) rfl rfl rfl (Y_slS (ao := (subA ao c (24 + 40 * i.j) 1)) (l := 64 + 40 * i.j - (24 + 40 * i.j)) (c := c - (24 + 40 * i.j)) (vl := some _) (vh := some _) (kl := 0) (kh := 4) sl25 rfl rfl rfl ⟨_, rfl⟩ ⟨_, rfl⟩ (by decide) (by omega) (by omega)) ?_
      refine GA_y 3 rfl (by kernel_rfl) (by kernel_rfl) (by kernel_rfl) (fun _ _ _ h => h) rfl rfl rfl (Y_move rfl) ?_
      refine GA_y 4 rfl (by kernel_rfl) (by kernel_rfl) (by kernel_rfl) (fun _ _ _ h => h) rfl rfl rfl (Y_slS (ao := (subA ao c (24 + 40 * i.j) 1)) (l := 64 + 40 * i.j - (24 + 40 * i.j)) (c := c - (24 + 40 * i.j)) (vl := some _) (vh := some _) (kl := 4) (kh := 8) sl25 rfl rfl rfl ⟨_, rfl⟩ ⟨_, rfl⟩ (by decide) (by omega) (by omega)) ?_
      refine GA_all [2, 7] (by kernel_rfl) rfl ⟨?_, ?_, trivial⟩
      · -- 2 comes up
        refine GO_call rfl rfl rfl rfl rfl rfl Try.call26 (fun w hw => number_is (bs := (((bs.drop (24 + 40 * i.j)).take 40).drop 0).take 4) ((subB (lo := 0) hx hxc 4).keep hw (by simp)) (by simp only [List.length_take, List.length_drop]; omega) (by simp only [List.length_take, List.length_drop]; omega)) ?_
        rintro _ _ ⟨rfl, rfl⟩
        rw [show numAt ((((bs.drop (24 + 40 * i.j)).take 40).drop 0).take 4) 0 = numAt (bs.drop (24 + 40 * i.j)) 0 from by rw [numAt_take (by decide)]; simp only [numAt]; rw [bAt_take (by decide), bAt_take (by decide), bAt_take (by decide), bAt_take (by decide)]]
        refine GA_all [5, 7] (by kernel_rfl) rfl ⟨?_, ?_, trivial⟩
        · -- 5 comes up
          refine GO_call rfl rfl rfl rfl rfl rfl Try.call26 (fun w hw => number_is (bs := (((bs.drop (24 + 40 * i.j)).take 40).drop 4).take 4) ((subB (lo := 4) hx hxc 4).keep hw (by simp)) (by simp only [List.length_take, List.length_drop]; omega) (by simp only [List.length_take, List.length_drop]; omega)) ?_
          rintro _ _ ⟨rfl, rfl⟩
          rw [show numAt ((((bs.drop (24 + 40 * i.j)).take 40).drop 4).take 4) 0 = numAt (bs.drop (24 + 40 * i.j)) 4 from by rw [numAt_take (by decide)]; simp only [numAt]; rw [bAt_take (by decide), bAt_take (by decide), bAt_take (by decide), bAt_take (by decide)]]
          refine GA_y 6 rfl (by kernel_rfl) (by kernel_rfl) (by kernel_rfl) (fun _ _ _ h => h) rfl rfl rfl (Y_build (v := .agg (segL (segP (bs.drop (24 + 40 * i.j)) 0)).toArray) (vs := [(0, .int .i64 (segP (bs.drop (24 + 40 * i.j)) 0).load), (1, .int .i64 (segP (bs.drop (24 + 40 * i.j)) 0).bytes)]) rfl (fun w => build47 _ w)) ?_
          refine GA_one 7 (by kernel_rfl) ?_
          refine GO_w rfl rfl rfl rfl (W_alloc zr47 fun b8 => ⟨⟨_, by repeat (first | exact .nil | exact Pick.rfl' _ | exact Pick.skip (Pick.rfl' _) | exact Pick.skip (Pick.skip (Pick.rfl' _)) | (apply Pick.cons; focus (first | exact .head | exact (.tail .head) | exact (.tail (.tail .head)) | exact (.tail (.tail (.tail .head))) | exact (.tail (.tail (.tail (.tail .head)))) | exact (.tail (.tail (.tail (.tail (.tail .head))))) | exact (.tail (.tail (.tail (.tail (.tail (.tail .head)))))) | exact (.tail (.tail (.tail (.tail (.tail (.tail (.tail .head))))))) | exact (.tail (.tail (.tail (.tail (.tail (.tail (.tail (.tail .head)))))))) | exact (.tail (.tail (.tail (.tail (.tail (.tail (.tail (.tail (.tail .head))))))))) | exact (.tail (.tail (.tail (.tail (.tail (.tail (.tail (.tail (.tail (.tail .head)))))))))) | exact (.tail (.tail (.tail (.tail (.tail (.tail (.tail (.tail (.tail (.tail (.tail .head))))))))))) | exact (.tail (.tail (.tail (.tail (.tail (.tail (.tail (.tail (.tail (.tail (.tail (.tail .head)))))))))))) | exact (.tail (.tail (.tail (.tail (.tail (.tail (.tail (.tail (.tail (.tail (.tail (.tail (.tail .head))))))))))))))))⟩, ?_⟩)
          refine GA_one 8 (by kernel_rfl) ?_
          refine GO_s rfl rfl rfl (S_all rfl rfl ag47 (segL_len _) (segL_all _) (by first | exact .head | exact (.tail .head) | exact (.tail (.tail .head)) | exact (.tail (.tail (.tail .head))) | exact (.tail (.tail (.tail (.tail .head)))) | exact (.tail (.tail (.tail (.tail (.tail .head))))) | exact (.tail (.tail (.tail (.tail (.tail (.tail .head)))))) | exact (.tail (.tail (.tail (.tail (.tail (.tail (.tail .head))))))) | exact (.tail (.tail (.tail (.tail (.tail (.tail (.tail (.tail .head)))))))) | exact (.tail (.tail (.tail (.tail (.tail (.tail (.tail (.tail (.tail .head))))))))) | exact (.tail (.tail (.tail (.tail (.tail (.tail (.tail (.tail (.tail (.tail .head)))))))))) | exact (.tail (.tail (.tail (.tail (.tail (.tail (.tail (.tail (.tail (.tail (.tail .head))))))))))) | exact (.tail (.tail (.tail (.tail (.tail (.tail (.tail (.tail (.tail (.tail (.tail (.tail .head)))))))))))) | exact (.tail (.tail (.tail (.tail (.tail (.tail (.tail (.tail (.tail (.tail (.tail (.tail (.tail .head)))))))))))))) (by rfl)) ?_
          refine GA_done (by kernel_rfl) ?_
          (repeat (first | (with_reducible refine R_seq ?_) | (with_reducible refine R_block_normal ?_)))
          (repeat (with_reducible refine G_seq ?_))
          refine G_region ?_
          refine GL_y rfl rfl (Y_assign rfl) ?_
          refine GL_nil ?_
          (repeat (first | (with_reducible refine R_seq ?_) | (with_reducible refine R_block_normal ?_)))
          (repeat (with_reducible refine G_seq ?_))
          refine G_block ?_
          (repeat (with_reducible refine G_seq ?_))
          refine G_loop (ι := Nat) (fun q => 32 - q) (fun q => q ≤ 32) (fun q => [(0, .slice ao bs.length c), (2, .pointer (some ⟨b2, 0, none⟩)), (3, .bool false), (4, .pointer (some ⟨b4, 0, none⟩)), (5, .int .i64 (numAt bs 20 : Nat)), (6, .int .i64 (i.j : Int)), (7, .slice (subA ao c (24 + 40 * i.j) 1) (64 + 40 * i.j - (24 + 40 * i.j)) (c - (24 + 40 * i.j))), (8, .pointer (some ⟨b8, 0, none⟩)), (9, .int .i64 (q : Int))]) (fun q => ⟨b8, 47, 34, segL (segP (bs.drop (24 + 40 * i.j)) q), (0, 0)⟩ :: ⟨b4, 24, 5, [Value.int .i64 (numAt bs 4 : Nat), .int .i64 (numAt bs 8 : Nat), .int .i64 (numAt bs 12 : Nat), .int .i64 (numAt bs 16 : Nat), .slice i.sa i.j i.sc], (0, 0)⟩ :: ⟨b2, 24, 5, [.int .i64 0, .int .i64 0, .int .i64 0, .int .i64 0, .slice none 0 0], (0, 0)⟩ :: i.NS) 0 ?_ (⟨by first | rfl | decide, by first | rfl | decide, by first | rfl | decide, by first | rfl | decide, by first | rfl | decide, by first | rfl | decide, by first | rfl | decide, by first | rfl | decide, by first | rfl | decide, trivial⟩) (by repeat (first | exact .nil | exact Pick.rfl' _ | exact Pick.skip (Pick.rfl' _) | exact Pick.skip (Pick.skip (Pick.rfl' _)) | (apply Pick.cons; focus (first | exact .head | exact (.tail .head) | exact (.tail (.tail .head)) | exact (.tail (.tail (.tail .head))) | exact (.tail (.tail (.tail (.tail .head)))) | exact (.tail (.tail (.tail (.tail (.tail .head))))) | exact (.tail (.tail (.tail (.tail (.tail (.tail .head)))))) | exact (.tail (.tail (.tail (.tail (.tail (.tail (.tail .head))))))) | exact (.tail (.tail (.tail (.tail (.tail (.tail (.tail (.tail .head)))))))) | exact (.tail (.tail (.tail (.tail (.tail (.tail (.tail (.tail (.tail .head))))))))) | exact (.tail (.tail (.tail (.tail (.tail (.tail (.tail (.tail (.tail (.tail .head)))))))))) | exact (.tail (.tail (.tail (.tail (.tail (.tail (.tail (.tail (.tail (.tail (.tail .head))))))))))) | exact (.tail (.tail (.tail (.tail (.tail (.tail (.tail (.tail (.tail (.tail (.tail (.tail .head)))))))))))) | exact (.tail (.tail (.tail (.tail (.tail (.tail (.tail (.tail (.tail (.tail (.tail (.tail (.tail .head))))))))))))))))) ?_
          · omega
          intro q hq
          (repeat (with_reducible refine G_seq ?_))
          refine G_region ?_
          refine GL_y rfl rfl (Y_move rfl) ?_
          refine GL_y rfl rfl (Y_lssN (b := 32) rfl rfl) ?_
          refine GL_nil ?_
          (repeat (first | (with_reducible refine R_seq ?_) | (with_reducible refine R_block_normal ?_)))
          (repeat (with_reducible refine G_seq ?_))
          refine G_cond_dec rfl (fun ht65 => ?_) (fun ht65 => ?_)
          · -- yes
            (repeat (with_reducible refine G_seq ?_))
            refine G_skip ?_
            (repeat (first | (with_reducible refine R_seq ?_) | (with_reducible refine R_block_normal ?_)))
            (repeat (with_reducible refine G_seq ?_))
            refine G_block ?_
            have hxq : ((bs.drop (24 + 40 * i.j)).take 40)[8 + q]? = some (bAt (bs.drop (24 + 40 * i.j)) (8 + q)) := by
              rw [List.getElem?_take, if_pos (by omega)]; exact bAt_some (by rw [List.length_drop]; omega)
            (repeat (with_reducible refine G_seq ?_))
            refine G_region ?_
            refine GL_y rfl rfl (Y_move rfl) ?_
            refine GL_y rfl rfl (Y_move rfl) ?_
            refine GL_y rfl rfl (Y_move rfl) ?_
            refine GL_y rfl rfl (Y_addN (a := 8) rfl rfl (by omega)) ?_
            refine GL_y rfl rfl (Y_bAt (j := 8 + q) (bs := (bs.drop (24 + 40 * i.j)).take 40) hx rfl rfl hxq (by simp only [List.length_take, List.length_drop]; omega)) ?_
            refine GL_y rfl rfl (Y_bGet hx (by simp) rfl hxq) ?_
            refine GL_y rfl rfl (Y_field fd47_2 rfl) ?_
            refine GL_y rfl rfl (Y_idxA1 ar45 rfl rfl (by first | omega | decide)) ?_
            refine GL_s rfl (S_sc rfl sc5 rfl rfl (by first | exact .head | exact (.tail .head) | exact (.tail (.tail .head)) | exact (.tail (.tail (.tail .head))) | exact (.tail (.tail (.tail (.tail .head)))) | exact (.tail (.tail (.tail (.tail (.tail .head))))) | exact (.tail (.tail (.tail (.tail (.tail (.tail .head)))))) | exact (.tail (.tail (.tail (.tail (.tail (.tail (.tail .head))))))) | exact (.tail (.tail (.tail (.tail (.tail (.tail (.tail (.tail .head)))))))) | exact (.tail (.tail (.tail (.tail (.tail (.tail (.tail (.tail (.tail .head))))))))) | exact (.tail (.tail (.tail (.tail (.tail (.tail (.tail (.tail (.tail (.tail .head)))))))))) | exact (.tail (.tail (.tail (.tail (.tail (.tail (.tail (.tail (.tail (.tail (.tail .head))))))))))) | exact (.tail (.tail (.tail (.tail (.tail (.tail (.tail (.tail (.tail (.tail (.tail (.tail .head)))))))))))) | exact (.tail (.tail (.tail (.tail (.tail (.tail (.tail (.tail (.tail (.tail (.tail (.tail (.tail .head)))))))))))))) (segP_set _ ht65)) ?_
            refine GL_nil ?_
            (repeat (first | (with_reducible refine R_seq ?_) | (with_reducible refine R_block_normal ?_)))
            (repeat (with_reducible refine G_seq ?_))
            refine G_region ?_
            refine GL_y rfl rfl (Y_move rfl) ?_
            refine GL_y rfl rfl (Y_addN (b := 1) rfl rfl (by first | omega | decide)) ?_
            refine GL_y rfl rfl (Y_assign rfl) ?_
            refine GL_nil ?_
            (repeat (first | (with_reducible refine R_seq ?_) | (with_reducible refine R_block_normal ?_)))
            (repeat (with_reducible refine R_block_normal ?_))
            refine R_fam (q + 1) ?_ (⟨by first | rfl | decide, by first | rfl | decide, by first | rfl | decide, by first | rfl | decide, by first | rfl | decide, by first | rfl | decide, by first | rfl | decide, by first | rfl | decide, by first | rfl | decide, trivial⟩) (by repeat (first | exact .nil | exact Pick.rfl' _ | exact Pick.skip (Pick.rfl' _) | exact Pick.skip (Pick.skip (Pick.rfl' _)) | (apply Pick.cons; focus (first | exact .head | exact (.tail .head) | exact (.tail (.tail .head)) | exact (.tail (.tail (.tail .head))) | exact (.tail (.tail (.tail (.tail .head)))) | exact (.tail (.tail (.tail (.tail (.tail .head))))) | exact (.tail (.tail (.tail (.tail (.tail (.tail .head)))))) | exact (.tail (.tail (.tail (.tail (.tail (.tail (.tail .head))))))) | exact (.tail (.tail (.tail (.tail (.tail (.tail (.tail (.tail .head)))))))) | exact (.tail (.tail (.tail (.tail (.tail (.tail (.tail (.tail (.tail .head))))))))) | exact (.tail (.tail (.tail (.tail (.tail (.tail (.tail (.tail (.tail (.tail .head)))))))))) | exact (.tail (.tail (.tail (.tail (.tail (.tail (.tail (.tail (.tail (.tail (.tail .head))))))))))) | exact (.tail (.tail (.tail (.tail (.tail (.tail (.tail (.tail (.tail (.tail (.tail (.tail .head)))))))))))) | exact (.tail (.tail (.tail (.tail (.tail (.tail (.tail (.tail (.tail (.tail (.tail (.tail (.tail .head)))))))))))))))))
            exact ⟨by omega, by omega⟩
          · -- no
            (repeat (with_reducible refine G_seq ?_))
            refine G_exit ?_
            (repeat (first | (with_reducible refine R_then_exit ?_) | (with_reducible refine R_block_exit ?_) | (with_reducible refine R_block_other (by decide) ?_)))
            (repeat (first | (with_reducible refine R_seq ?_) | (with_reducible refine R_block_normal ?_)))
            obtain rfl : q = 32 := by omega
            (repeat (with_reducible refine G_seq ?_))
            refine G_region ?_
            refine GL_y rfl rfl (Y_field fd24_4 rfl) ?_
            refine GL_y rfl rfl (Y_loadS rfl sc22 (by first | exact .head _ | exact .tail _ (.head _) | exact .tail _ (.tail _ (.head _)) | exact .tail _ (.tail _ (.tail _ (.head _))) | exact .tail _ (.tail _ (.tail _ (.tail _ (.head _)))) | exact .tail _ (.tail _ (.tail _ (.tail _ (.tail _ (.head _))))) | exact .tail _ (.tail _ (.tail _ (.tail _ (.tail _ (.tail _ (.head _)))))) | exact .tail _ (.tail _ (.tail _ (.tail _ (.tail _ (.tail _ (.tail _ (.head _))))))) | exact .tail _ (.tail _ (.tail _ (.tail _ (.tail _ (.tail _ (.tail _ (.tail _ (.head _)))))))) | exact .tail _ (.tail _ (.tail _ (.tail _ (.tail _ (.tail _ (.tail _ (.tail _ (.tail _ (.head _))))))))) | exact .tail _ (.tail _ (.tail _ (.tail _ (.tail _ (.tail _ (.tail _ (.tail _ (.tail _ (.tail _ (.head _)))))))))) | exact .tail _ (.tail _ (.tail _ (.tail _ (.tail _ (.tail _ (.tail _ (.tail _ (.tail _ (.tail _ (.tail _ (.head _))))))))))) | exact .tail _ (.tail _ (.tail _ (.tail _ (.tail _ (.tail _ (.tail _ (.tail _ (.tail _ (.tail _ (.tail _ (.tail _ (.head _)))))))))))) | exact .tail _ (.tail _ (.tail _ (.tail _ (.tail _ (.tail _ (.tail _ (.tail _ (.tail _ (.tail _ (.tail _ (.tail _ (.tail _ (.head _)))))))))))))) (by rfl)) ?_
            refine GL_y rfl rfl (Y_loadA (xs := segL (segP (bs.drop (24 + 40 * i.j)) 32)) rfl (by first | exact .head _ | exact .tail _ (.head _) | exact .tail _ (.tail _ (.head _)) | exact .tail _ (.tail _ (.tail _ (.head _))) | exact .tail _ (.tail _ (.tail _ (.tail _ (.head _)))) | exact .tail _ (.tail _ (.tail _ (.tail _ (.tail _ (.head _))))) | exact .tail _ (.tail _ (.tail _ (.tail _ (.tail _ (.tail _ (.head _)))))) | exact .tail _ (.tail _ (.tail _ (.tail _ (.tail _ (.tail _ (.tail _ (.head _))))))) | exact .tail _ (.tail _ (.tail _ (.tail _ (.tail _ (.tail _ (.tail _ (.tail _ (.head _)))))))) | exact .tail _ (.tail _ (.tail _ (.tail _ (.tail _ (.tail _ (.tail _ (.tail _ (.tail _ (.head _))))))))) | exact .tail _ (.tail _ (.tail _ (.tail _ (.tail _ (.tail _ (.tail _ (.tail _ (.tail _ (.tail _ (.head _)))))))))) | exact .tail _ (.tail _ (.tail _ (.tail _ (.tail _ (.tail _ (.tail _ (.tail _ (.tail _ (.tail _ (.tail _ (.head _))))))))))) | exact .tail _ (.tail _ (.tail _ (.tail _ (.tail _ (.tail _ (.tail _ (.tail _ (.tail _ (.tail _ (.tail _ (.tail _ (.head _)))))))))))) | exact .tail _ (.tail _ (.tail _ (.tail _ (.tail _ (.tail _ (.tail _ (.tail _ (.tail _ (.tail _ (.tail _ (.tail _ (.tail _ (.head _)))))))))))))) ag47 (segL_len _)) ?_
            refine GL_w rfl rfl (W_bs1 (xs := segL (segP (bs.drop (24 + 40 * i.j)) 32)) Try.underlying22 el47 rfl (segL_len _) (by decide) (by decide) fun b79 => ?_)
            refine GL_w rfl rfl (W_appRec (r := segsAt bs i.j) (a := segOf (bs.drop (24 + 40 * i.j))) segL_len segL_all (by decide) (by decide) Try.underlying22 el47 hO rfl (segsAt_len _ _).symm rfl (by rw [segsAt_len]; omega) (.skip (.skip (.skip (.skip (Pick.rfl' _))))) (by first | exact .head _ | exact .tail _ (.head _) | exact .tail _ (.tail _ (.head _)) | exact .tail _ (.tail _ (.tail _ (.head _))) | exact .tail _ (.tail _ (.tail _ (.tail _ (.head _)))) | exact .tail _ (.tail _ (.tail _ (.tail _ (.tail _ (.head _))))) | exact .tail _ (.tail _ (.tail _ (.tail _ (.tail _ (.tail _ (.head _)))))) | exact .tail _ (.tail _ (.tail _ (.tail _ (.tail _ (.tail _ (.tail _ (.head _))))))) | exact .tail _ (.tail _ (.tail _ (.tail _ (.tail _ (.tail _ (.tail _ (.tail _ (.head _)))))))) | exact .tail _ (.tail _ (.tail _ (.tail _ (.tail _ (.tail _ (.tail _ (.tail _ (.tail _ (.head _))))))))) | exact .tail _ (.tail _ (.tail _ (.tail _ (.tail _ (.tail _ (.tail _ (.tail _ (.tail _ (.tail _ (.head _)))))))))) | exact .tail _ (.tail _ (.tail _ (.tail _ (.tail _ (.tail _ (.tail _ (.tail _ (.tail _ (.tail _ (.tail _ (.head _))))))))))) | exact .tail _ (.tail _ (.tail _ (.tail _ (.tail _ (.tail _ (.tail _ (.tail _ (.tail _ (.tail _ (.tail _ (.tail _ (.head _)))))))))))) | exact .tail _ (.tail _ (.tail _ (.tail _ (.tail _ (.tail _ (.tail _ (.tail _ (.tail _ (.tail _ (.tail _ (.tail _ (.tail _ (.head _)))))))))))))) fun b80 c80 h80 => ?_)
            refine GL_y rfl rfl (Y_field fd24_4 rfl) ?_
            refine GL_s rfl (S_sc rfl sc22 rfl rfl (by first | exact .head | exact (.tail .head) | exact (.tail (.tail .head)) | exact (.tail (.tail (.tail .head))) | exact (.tail (.tail (.tail (.tail .head)))) | exact (.tail (.tail (.tail (.tail (.tail .head))))) | exact (.tail (.tail (.tail (.tail (.tail (.tail .head)))))) | exact (.tail (.tail (.tail (.tail (.tail (.tail (.tail .head))))))) | exact (.tail (.tail (.tail (.tail (.tail (.tail (.tail (.tail .head)))))))) | exact (.tail (.tail (.tail (.tail (.tail (.tail (.tail (.tail (.tail .head))))))))) | exact (.tail (.tail (.tail (.tail (.tail (.tail (.tail (.tail (.tail (.tail .head)))))))))) | exact (.tail (.tail (.tail (.tail (.tail (.tail (.tail (.tail (.tail (.tail (.tail .head))))))))))) | exact (.tail (.tail (.tail (.tail (.tail (.tail (.tail (.tail (.tail (.tail (.tail (.tail .head)))))))))))) | exact (.tail (.tail (.tail (.tail (.tail (.tail (.tail (.tail (.tail (.tail (.tail (.tail (.tail .head)))))))))))))) (by rfl)) ?_
            refine GL_nil ?_
            (repeat (first | (with_reducible refine R_seq ?_) | (with_reducible refine R_block_normal ?_)))
            (repeat (with_reducible refine G_seq ?_))
            refine G_region ?_
            refine GL_y rfl rfl (Y_move rfl) ?_
            refine GL_y rfl rfl (Y_addN (b := 1) rfl rfl (by first | omega | decide)) ?_
            refine GL_y rfl rfl (Y_assign rfl) ?_
            refine GL_nil ?_
            (repeat (first | (with_reducible refine R_seq ?_) | (with_reducible refine R_block_normal ?_)))
            (repeat (with_reducible refine R_block_normal ?_))
            rw [show segsAt bs i.j ++ [segOf (bs.drop (24 + 40 * i.j))] = segsAt bs (i.j + 1) from (segsAt_succ _ _).symm, segsAt_len]
            refine R_fam ⟨i.j + 1, [⟨b80, 47, c80 * 34, recL segL (segsAt bs (i.j + 1)), (0, 0)⟩], some ⟨b80, 0, none⟩, c80⟩ ?_ (⟨by first | rfl | decide, by first | rfl | decide, by first | rfl | decide, by first | rfl | decide, by first | rfl | decide, by first | rfl | decide, trivial⟩) (by repeat (first | exact .nil | exact Pick.rfl' _ | exact Pick.skip (Pick.rfl' _) | exact Pick.skip (Pick.skip (Pick.rfl' _)) | (apply Pick.cons; focus (first | exact .head | exact (.tail .head) | exact (.tail (.tail .head)) | exact (.tail (.tail (.tail .head))) | exact (.tail (.tail (.tail (.tail .head)))) | exact (.tail (.tail (.tail (.tail (.tail .head))))) | exact (.tail (.tail (.tail (.tail (.tail (.tail .head)))))) | exact (.tail (.tail (.tail (.tail (.tail (.tail (.tail .head))))))) | exact (.tail (.tail (.tail (.tail (.tail (.tail (.tail (.tail .head)))))))) | exact (.tail (.tail (.tail (.tail (.tail (.tail (.tail (.tail (.tail .head))))))))) | exact (.tail (.tail (.tail (.tail (.tail (.tail (.tail (.tail (.tail (.tail .head)))))))))) | exact (.tail (.tail (.tail (.tail (.tail (.tail (.tail (.tail (.tail (.tail (.tail .head))))))))))) | exact (.tail (.tail (.tail (.tail (.tail (.tail (.tail (.tail (.tail (.tail (.tail (.tail .head)))))))))))) | exact (.tail (.tail (.tail (.tail (.tail (.tail (.tail (.tail (.tail (.tail (.tail (.tail (.tail .head)))))))))))))))))
            exact ⟨⟨by simp only; omega, .inr ⟨b80, rfl, rfl⟩⟩, by simp only; omega⟩
        · -- 7 comes up
          refine GO_w rfl rfl rfl rfl (W_alloc zr47 fun b8 => ⟨⟨_, by repeat (first | exact .nil | exact Pick.rfl' _ | exact Pick.skip (Pick.rfl' _) | exact Pick.skip (Pick.skip (Pick.rfl' _)) | (apply Pick.cons; focus (first | exact .head | exact (.tail .head) | exact (.tail (.tail .head)) | exact (.tail (.tail (.tail .head))) | exact (.tail (.tail (.tail (.tail .head)))) | exact (.tail (.tail (.tail (.tail (.tail .head))))) | exact (.tail (.tail (.tail (.tail (.tail (.tail .head)))))) | exact (.tail (.tail (.tail (.tail (.tail (.tail (.tail .head))))))) | exact (.tail (.tail (.tail (.tail (.tail (.tail (.tail (.tail .head)))))))) | exact (.tail (.tail (.tail (.tail (.tail (.tail (.tail (.tail (.tail .head))))))))) | exact (.tail (.tail (.tail (.tail (.tail (.tail (.tail (.tail (.tail (.tail .head)))))))))) | exact (.tail (.tail (.tail (.tail (.tail (.tail (.tail (.tail (.tail (.tail (.tail .head))))))))))) | exact (.tail (.tail (.tail (.tail (.tail (.tail (.tail (.tail (.tail (.tail (.tail (.tail .head)))))))))))) | exact (.tail (.tail (.tail (.tail (.tail (.tail (.tail (.tail (.tail (.tail (.tail (.tail (.tail .head))))))))))))))))⟩, ?_⟩)
          refine GA_one 5 (by kernel_rfl) ?_
          refine GO_call rfl rfl rfl rfl rfl rfl Try.call26 (fun w hw => number_is (bs := (((bs.drop (24 + 40 * i.j)).take 40).drop 4).take 4) ((subB (lo := 4) hx hxc 4).keep hw (by simp)) (by simp only [List.length_take, List.length_drop]; omega) (by simp only [List.length_take, List.length_drop]; omega)) ?_
          rintro _ _ ⟨rfl, rfl⟩
          rw [show numAt ((((bs.drop (24 + 40 * i.j)).take 40).drop 4).take 4) 0 = numAt (bs.drop (24 + 40 * i.j)) 4 from by rw [numAt_take (by decide)]; simp only [numAt]; rw [bAt_take (by decide), bAt_take (by decide), bAt_take (by decide), bAt_take (by decide)]]
          refine GA_y 6 rfl (by kernel_rfl) (by kernel_rfl) (by kernel_rfl) (fun _ _ _ h => h) rfl rfl rfl (Y_build (v := .agg (segL (segP (bs.drop (24 + 40 * i.j)) 0)).toArray) (vs := [(0, .int .i64 (segP (bs.drop (24 + 40 * i.j)) 0).load), (1, .int .i64 (segP (bs.drop (24 + 40 * i.j)) 0).bytes)]) rfl (fun w => build47 _ w)) ?_
          refine GA_one 8 (by kernel_rfl) ?_
          refine GO_s rfl rfl rfl (S_all rfl rfl ag47 (segL_len _) (segL_all _) (by first | exact .head | exact (.tail .head) | exact (.tail (.tail .head)) | exact (.tail (.tail (.tail .head))) | exact (.tail (.tail (.tail (.tail .head)))) | exact (.tail (.tail (.tail (.tail (.tail .head))))) | exact (.tail (.tail (.tail (.tail (.tail (.tail .head)))))) | exact (.tail (.tail (.tail (.tail (.tail (.tail (.tail .head))))))) | exact (.tail (.tail (.tail (.tail (.tail (.tail (.tail (.tail .head)))))))) | exact (.tail (.tail (.tail (.tail (.tail (.tail (.tail (.tail (.tail .head))))))))) | exact (.tail (.tail (.tail (.tail (.tail (.tail (.tail (.tail (.tail (.tail .head)))))))))) | exact (.tail (.tail (.tail (.tail (.tail (.tail (.tail (.tail (.tail (.tail (.tail .head))))))))))) | exact (.tail (.tail (.tail (.tail (.tail (.tail (.tail (.tail (.tail (.tail (.tail (.tail .head)))))))))))) | exact (.tail (.tail (.tail (.tail (.tail (.tail (.tail (.tail (.tail (.tail (.tail (.tail (.tail .head)))))))))))))) (by rfl)) ?_
          refine GA_done (by kernel_rfl) ?_
          (repeat (first | (with_reducible refine R_seq ?_) | (with_reducible refine R_block_normal ?_)))
          (repeat (with_reducible refine G_seq ?_))
          refine G_region ?_
          refine GL_y rfl rfl (Y_assign rfl) ?_
          refine GL_nil ?_
          (repeat (first | (with_reducible refine R_seq ?_) | (with_reducible refine R_block_normal ?_)))
          (repeat (with_reducible refine G_seq ?_))
          refine G_block ?_
          (repeat (with_reducible refine G_seq ?_))
          refine G_loop (ι := Nat) (fun q => 32 - q) (fun q => q ≤ 32) (fun q => [(0, .slice ao bs.length c), (2, .pointer (some ⟨b2, 0, none⟩)), (3, .bool false), (4, .pointer (some ⟨b4, 0, none⟩)), (5, .int .i64 (numAt bs 20 : Nat)), (6, .int .i64 (i.j : Int)), (7, .slice (subA ao c (24 + 40 * i.j) 1) (64 + 40 * i.j - (24 + 40 * i.j)) (c - (24 + 40 * i.j))), (8, .pointer (some ⟨b8, 0, none⟩)), (9, .int .i64 (q : Int))]) (fun q => ⟨b8, 47, 34, segL (segP (bs.drop (24 + 40 * i.j)) q), (0, 0)⟩ :: ⟨b4, 24, 5, [Value.int .i64 (numAt bs 4 : Nat), .int .i64 (numAt bs 8 : Nat), .int .i64 (numAt bs 12 : Nat), .int .i64 (numAt bs 16 : Nat), .slice i.sa i.j i.sc], (0, 0)⟩ :: ⟨b2, 24, 5, [.int .i64 0, .int .i64 0, .int .i64 0, .int .i64 0, .slice none 0 0], (0, 0)⟩ :: i.NS) 0 ?_ (⟨by first | rfl | decide, by first | rfl | decide, by first | rfl | decide, by first | rfl | decide, by first | rfl | decide, by first | rfl | decide, by first | rfl | decide, by first | rfl | decide, by first | rfl | decide, trivial⟩) (by repeat (first | exact .nil | exact Pick.rfl' _ | exact Pick.skip (Pick.rfl' _) | exact Pick.skip (Pick.skip (Pick.rfl' _)) | (apply Pick.cons; focus (first | exact .head | exact (.tail .head) | exact (.tail (.tail .head)) | exact (.tail (.tail (.tail .head))) | exact (.tail (.tail (.tail (.tail .head)))) | exact (.tail (.tail (.tail (.tail (.tail .head))))) | exact (.tail (.tail (.tail (.tail (.tail (.tail .head)))))) | exact (.tail (.tail (.tail (.tail (.tail (.tail (.tail .head))))))) | exact (.tail (.tail (.tail (.tail (.tail (.tail (.tail (.tail .head)))))))) | exact (.tail (.tail (.tail (.tail (.tail (.tail (.tail (.tail (.tail .head))))))))) | exact (.tail (.tail (.tail (.tail (.tail (.tail (.tail (.tail (.tail (.tail .head)))))))))) | exact (.tail (.tail (.tail (.tail (.tail (.tail (.tail (.tail (.tail (.tail (.tail .head))))))))))) | exact (.tail (.tail (.tail (.tail (.tail (.tail (.tail (.tail (.tail (.tail (.tail (.tail .head)))))))))))) | exact (.tail (.tail (.tail (.tail (.tail (.tail (.tail (.tail (.tail (.tail (.tail (.tail (.tail .head))))))))))))))))) ?_
          · omega
          intro q hq
          (repeat (with_reducible refine G_seq ?_))
          refine G_region ?_
          refine GL_y rfl rfl (Y_move rfl) ?_
          refine GL_y rfl rfl (Y_lssN (b := 32) rfl rfl) ?_
          refine GL_nil ?_
          (repeat (first | (with_reducible refine R_seq ?_) | (with_reducible refine R_block_normal ?_)))
          (repeat (with_reducible refine G_seq ?_))
          refine G_cond_dec rfl (fun ht65 => ?_) (fun ht65 => ?_)
          · -- yes
            (repeat (with_reducible refine G_seq ?_))
            refine G_skip ?_
            (repeat (first | (with_reducible refine R_seq ?_) | (with_reducible refine R_block_normal ?_)))
            (repeat (with_reducible refine G_seq ?_))
            refine G_block ?_
            have hxq : ((bs.drop (24 + 40 * i.j)).take 40)[8 + q]? = some (bAt (bs.drop (24 + 40 * i.j)) (8 + q)) := by
              rw [List.getElem?_take, if_pos (by omega)]; exact bAt_some (by rw [List.length_drop]; omega)
            (repeat (with_reducible refine G_seq ?_))
            refine G_region ?_
            refine GL_y rfl rfl (Y_move rfl) ?_
            refine GL_y rfl rfl (Y_move rfl) ?_
            refine GL_y rfl rfl (Y_move rfl) ?_
            refine GL_y rfl rfl (Y_addN (a := 8) rfl rfl (by omega)) ?_
            refine GL_y rfl rfl (Y_bAt (j := 8 + q) (bs := (bs.drop (24 + 40 * i.j)).take 40) hx rfl rfl hxq (by simp only [List.length_take, List.length_drop]; omega)) ?_
            refine GL_y rfl rfl (Y_bGet hx (by simp) rfl hxq) ?_
            refine GL_y rfl rfl (Y_field fd47_2 rfl) ?_
            refine GL_y rfl rfl (Y_idxA1 ar45 rfl rfl (by first | omega | decide)) ?_
            refine GL_s rfl (S_sc rfl sc5 rfl rfl (by first | exact .head | exact (.tail .head) | exact (.tail (.tail .head)) | exact (.tail (.tail (.tail .head))) | exact (.tail (.tail (.tail (.tail .head)))) | exact (.tail (.tail (.tail (.tail (.tail .head))))) | exact (.tail (.tail (.tail (.tail (.tail (.tail .head)))))) | exact (.tail (.tail (.tail (.tail (.tail (.tail (.tail .head))))))) | exact (.tail (.tail (.tail (.tail (.tail (.tail (.tail (.tail .head)))))))) | exact (.tail (.tail (.tail (.tail (.tail (.tail (.tail (.tail (.tail .head))))))))) | exact (.tail (.tail (.tail (.tail (.tail (.tail (.tail (.tail (.tail (.tail .head)))))))))) | exact (.tail (.tail (.tail (.tail (.tail (.tail (.tail (.tail (.tail (.tail (.tail .head))))))))))) | exact (.tail (.tail (.tail (.tail (.tail (.tail (.tail (.tail (.tail (.tail (.tail (.tail .head)))))))))))) | exact (.tail (.tail (.tail (.tail (.tail (.tail (.tail (.tail (.tail (.tail (.tail (.tail (.tail .head)))))))))))))) (segP_set _ ht65)) ?_
            refine GL_nil ?_
            (repeat (first | (with_reducible refine R_seq ?_) | (with_reducible refine R_block_normal ?_)))
            (repeat (with_reducible refine G_seq ?_))
            refine G_region ?_
            refine GL_y rfl rfl (Y_move rfl) ?_
            refine GL_y rfl rfl (Y_addN (b := 1) rfl rfl (by first | omega | decide)) ?_
            refine GL_y rfl rfl (Y_assign rfl) ?_
            refine GL_nil ?_
            (repeat (first | (with_reducible refine R_seq ?_) | (with_reducible refine R_block_normal ?_)))
            (repeat (with_reducible refine R_block_normal ?_))
            refine R_fam (q + 1) ?_ (⟨by first | rfl | decide, by first | rfl | decide, by first | rfl | decide, by first | rfl | decide, by first | rfl | decide, by first | rfl | decide, by first | rfl | decide, by first | rfl | decide, by first | rfl | decide, trivial⟩) (by repeat (first | exact .nil | exact Pick.rfl' _ | exact Pick.skip (Pick.rfl' _) | exact Pick.skip (Pick.skip (Pick.rfl' _)) | (apply Pick.cons; focus (first | exact .head | exact (.tail .head) | exact (.tail (.tail .head)) | exact (.tail (.tail (.tail .head))) | exact (.tail (.tail (.tail (.tail .head)))) | exact (.tail (.tail (.tail (.tail (.tail .head))))) | exact (.tail (.tail (.tail (.tail (.tail (.tail .head)))))) | exact (.tail (.tail (.tail (.tail (.tail (.tail (.tail .head))))))) | exact (.tail (.tail (.tail (.tail (.tail (.tail (.tail (.tail .head)))))))) | exact (.tail (.tail (.tail (.tail (.tail (.tail (.tail (.tail (.tail .head))))))))) | exact (.tail (.tail (.tail (.tail (.tail (.tail (.tail (.tail (.tail (.tail .head)))))))))) | exact (.tail (.tail (.tail (.tail (.tail (.tail (.tail (.tail (.tail (.tail (.tail .head))))))))))) | exact (.tail (.tail (.tail (.tail (.tail (.tail (.tail (.tail (.tail (.tail (.tail (.tail .head)))))))))))) | exact (.tail (.tail (.tail (.tail (.tail (.tail (.tail (.tail (.tail (.tail (.tail (.tail (.tail .head)))))))))))))))))
            exact ⟨by omega, by omega⟩
          · -- no
            (repeat (with_reducible refine G_seq ?_))
            refine G_exit ?_
            (repeat (first | (with_reducible refine R_then_exit ?_) | (with_reducible refine R_block_exit ?_) | (with_reducible refine R_block_other (by decide) ?_)))
            (repeat (first | (with_reducible refine R_seq ?_) | (with_reducible refine R_block_normal ?_)))
            obtain rfl : q = 32 := by omega
            (repeat (with_reducible refine G_seq ?_))
            refine G_region ?_
            refine GL_y rfl rfl (Y_field fd24_4 rfl) ?_
            refine GL_y rfl rfl (Y_loadS rfl sc22 (by first | exact .head _ | exact .tail _ (.head _) | exact .tail _ (.tail _ (.head _)) | exact .tail _ (.tail _ (.tail _ (.head _))) | exact .tail _ (.tail _ (.tail _ (.tail _ (.head _)))) | exact .tail _ (.tail _ (.tail _ (.tail _ (.tail _ (.head _))))) | exact .tail _ (.tail _ (.tail _ (.tail _ (.tail _ (.tail _ (.head _)))))) | exact .tail _ (.tail _ (.tail _ (.tail _ (.tail _ (.tail _ (.tail _ (.head _))))))) | exact .tail _ (.tail _ (.tail _ (.tail _ (.tail _ (.tail _ (.tail _ (.tail _ (.head _)))))))) | exact .tail _ (.tail _ (.tail _ (.tail _ (.tail _ (.tail _ (.tail _ (.tail _ (.tail _ (.head _))))))))) | exact .tail _ (.tail _ (.tail _ (.tail _ (.tail _ (.tail _ (.tail _ (.tail _ (.tail _ (.tail _ (.head _)))))))))) | exact .tail _ (.tail _ (.tail _ (.tail _ (.tail _ (.tail _ (.tail _ (.tail _ (.tail _ (.tail _ (.tail _ (.head _))))))))))) | exact .tail _ (.tail _ (.tail _ (.tail _ (.tail _ (.tail _ (.tail _ (.tail _ (.tail _ (.tail _ (.tail _ (.tail _ (.head _)))))))))))) | exact .tail _ (.tail _ (.tail _ (.tail _ (.tail _ (.tail _ (.tail _ (.tail _ (.tail _ (.tail _ (.tail _ (.tail _ (.tail _ (.head _)))))))))))))) (by rfl)) ?_
            refine GL_y rfl rfl (Y_loadA (xs := segL (segP (bs.drop (24 + 40 * i.j)) 32)) rfl (by first | exact .head _ | exact .tail _ (.head _) | exact .tail _ (.tail _ (.head _)) | exact .tail _ (.tail _ (.tail _ (.head _))) | exact .tail _ (.tail _ (.tail _ (.tail _ (.head _)))) | exact .tail _ (.tail _ (.tail _ (.tail _ (.tail _ (.head _))))) | exact .tail _ (.tail _ (.tail _ (.tail _ (.tail _ (.tail _ (.head _)))))) | exact .tail _ (.tail _ (.tail _ (.tail _ (.tail _ (.tail _ (.tail _ (.head _))))))) | exact .tail _ (.tail _ (.tail _ (.tail _ (.tail _ (.tail _ (.tail _ (.tail _ (.head _)))))))) | exact .tail _ (.tail _ (.tail _ (.tail _ (.tail _ (.tail _ (.tail _ (.tail _ (.tail _ (.head _))))))))) | exact .tail _ (.tail _ (.tail _ (.tail _ (.tail _ (.tail _ (.tail _ (.tail _ (.tail _ (.tail _ (.head _)))))))))) | exact .tail _ (.tail _ (.tail _ (.tail _ (.tail _ (.tail _ (.tail _ (.tail _ (.tail _ (.tail _ (.tail _ (.head _))))))))))) | exact .tail _ (.tail _ (.tail _ (.tail _ (.tail _ (.tail _ (.tail _ (.tail _ (.tail _ (.tail _ (.tail _ (.tail _ (.head _)))))))))))) | exact .tail _ (.tail _ (.tail _ (.tail _ (.tail _ (.tail _ (.tail _ (.tail _ (.tail _ (.tail _ (.tail _ (.tail _ (.tail _ (.head _)))))))))))))) ag47 (segL_len _)) ?_
            refine GL_w rfl rfl (W_bs1 (xs := segL (segP (bs.drop (24 + 40 * i.j)) 32)) Try.underlying22 el47 rfl (segL_len _) (by decide) (by decide) fun b79 => ?_)
            refine GL_w rfl rfl (W_appRec (r := segsAt bs i.j) (a := segOf (bs.drop (24 + 40 * i.j))) segL_len segL_all (by decide) (by decide) Try.underlying22 el47 hO rfl (segsAt_len _ _).symm rfl (by rw [segsAt_len]; omega) (.skip (.skip (.skip (.skip (Pick.rfl' _))))) (by first | exact .head _ | exact .tail _ (.head _) | exact .tail _ (.tail _ (.head _)) | exact .tail _ (.tail _ (.tail _ (.head _))) | exact .tail _ (.tail _ (.tail _ (.tail _ (.head _)))) | exact .tail _ (.tail _ (.tail _ (.tail _ (.tail _ (.head _))))) | exact .tail _ (.tail _ (.tail _ (.tail _ (.tail _ (.tail _ (.head _)))))) | exact .tail _ (.tail _ (.tail _ (.tail _ (.tail _ (.tail _ (.tail _ (.head _))))))) | exact .tail _ (.tail _ (.tail _ (.tail _ (.tail _ (.tail _ (.tail _ (.tail _ (.head _)))))))) | exact .tail _ (.tail _ (.tail _ (.tail _ (.tail _ (.tail _ (.tail _ (.tail _ (.tail _ (.head _))))))))) | exact .tail _ (.tail _ (.tail _ (.tail _ (.tail _ (.tail _ (.tail _ (.tail _ (.tail _ (.tail _ (.head _)))))))))) | exact .tail _ (.tail _ (.tail _ (.tail _ (.tail _ (.tail _ (.tail _ (.tail _ (.tail _ (.tail _ (.tail _ (.head _))))))))))) | exact .tail _ (.tail _ (.tail _ (.tail _ (.tail _ (.tail _ (.tail _ (.tail _ (.tail _ (.tail _ (.tail _ (.tail _ (.head _)))))))))))) | exact .tail _ (.tail _ (.tail _ (.tail _ (.tail _ (.tail _ (.tail _ (.tail _ (.tail _ (.tail _ (.tail _ (.tail _ (.tail _ (.head _)))))))))))))) fun b80 c80 h80 => ?_)
            refine GL_y rfl rfl (Y_field fd24_4 rfl) ?_
            refine GL_s rfl (S_sc rfl sc22 rfl rfl (by first | exact .head | exact (.tail .head) | exact (.tail (.tail .head)) | exact (.tail (.tail (.tail .head))) | exact (.tail (.tail (.tail (.tail .head)))) | exact (.tail (.tail (.tail (.tail (.tail .head))))) | exact (.tail (.tail (.tail (.tail (.tail (.tail .head)))))) | exact (.tail (.tail (.tail (.tail (.tail (.tail (.tail .head))))))) | exact (.tail (.tail (.tail (.tail (.tail (.tail (.tail (.tail .head)))))))) | exact (.tail (.tail (.tail (.tail (.tail (.tail (.tail (.tail (.tail .head))))))))) | exact (.tail (.tail (.tail (.tail (.tail (.tail (.tail (.tail (.tail (.tail .head)))))))))) | exact (.tail (.tail (.tail (.tail (.tail (.tail (.tail (.tail (.tail (.tail (.tail .head))))))))))) | exact (.tail (.tail (.tail (.tail (.tail (.tail (.tail (.tail (.tail (.tail (.tail (.tail .head)))))))))))) | exact (.tail (.tail (.tail (.tail (.tail (.tail (.tail (.tail (.tail (.tail (.tail (.tail (.tail .head)))))))))))))) (by rfl)) ?_
            refine GL_nil ?_
            (repeat (first | (with_reducible refine R_seq ?_) | (with_reducible refine R_block_normal ?_)))
            (repeat (with_reducible refine G_seq ?_))
            refine G_region ?_
            refine GL_y rfl rfl (Y_move rfl) ?_
            refine GL_y rfl rfl (Y_addN (b := 1) rfl rfl (by first | omega | decide)) ?_
            refine GL_y rfl rfl (Y_assign rfl) ?_
            refine GL_nil ?_
            (repeat (first | (with_reducible refine R_seq ?_) | (with_reducible refine R_block_normal ?_)))
            (repeat (with_reducible refine R_block_normal ?_))
            rw [show segsAt bs i.j ++ [segOf (bs.drop (24 + 40 * i.j))] = segsAt bs (i.j + 1) from (segsAt_succ _ _).symm, segsAt_len]
            refine R_fam ⟨i.j + 1, [⟨b80, 47, c80 * 34, recL segL (segsAt bs (i.j + 1)), (0, 0)⟩], some ⟨b80, 0, none⟩, c80⟩ ?_ (⟨by first | rfl | decide, by first | rfl | decide, by first | rfl | decide, by first | rfl | decide, by first | rfl | decide, by first | rfl | decide, trivial⟩) (by repeat (first | exact .nil | exact Pick.rfl' _ | exact Pick.skip (Pick.rfl' _) | exact Pick.skip (Pick.skip (Pick.rfl' _)) | (apply Pick.cons; focus (first | exact .head | exact (.tail .head) | exact (.tail (.tail .head)) | exact (.tail (.tail (.tail .head))) | exact (.tail (.tail (.tail (.tail .head)))) | exact (.tail (.tail (.tail (.tail (.tail .head))))) | exact (.tail (.tail (.tail (.tail (.tail (.tail .head)))))) | exact (.tail (.tail (.tail (.tail (.tail (.tail (.tail .head))))))) | exact (.tail (.tail (.tail (.tail (.tail (.tail (.tail (.tail .head)))))))) | exact (.tail (.tail (.tail (.tail (.tail (.tail (.tail (.tail (.tail .head))))))))) | exact (.tail (.tail (.tail (.tail (.tail (.tail (.tail (.tail (.tail (.tail .head)))))))))) | exact (.tail (.tail (.tail (.tail (.tail (.tail (.tail (.tail (.tail (.tail (.tail .head))))))))))) | exact (.tail (.tail (.tail (.tail (.tail (.tail (.tail (.tail (.tail (.tail (.tail (.tail .head)))))))))))) | exact (.tail (.tail (.tail (.tail (.tail (.tail (.tail (.tail (.tail (.tail (.tail (.tail (.tail .head)))))))))))))))))
            exact ⟨⟨by simp only; omega, .inr ⟨b80, rfl, rfl⟩⟩, by simp only; omega⟩
      · -- 7 comes up
        refine GO_w rfl rfl rfl rfl (W_alloc zr47 fun b8 => ⟨⟨_, by repeat (first | exact .nil | exact Pick.rfl' _ | exact Pick.skip (Pick.rfl' _) | exact Pick.skip (Pick.skip (Pick.rfl' _)) | (apply Pick.cons; focus (first | exact .head | exact (.tail .head) | exact (.tail (.tail .head)) | exact (.tail (.tail (.tail .head))) | exact (.tail (.tail (.tail (.tail .head)))) | exact (.tail (.tail (.tail (.tail (.tail .head))))) | exact (.tail (.tail (.tail (.tail (.tail (.tail .head)))))) | exact (.tail (.tail (.tail (.tail (.tail (.tail (.tail .head))))))) | exact (.tail (.tail (.tail (.tail (.tail (.tail (.tail (.tail .head)))))))) | exact (.tail (.tail (.tail (.tail (.tail (.tail (.tail (.tail (.tail .head))))))))) | exact (.tail (.tail (.tail (.tail (.tail (.tail (.tail (.tail (.tail (.tail .head)))))))))) | exact (.tail (.tail (.tail (.tail (.tail (.tail (.tail (.tail (.tail (.tail (.tail .head))))))))))) | exact (.tail (.tail (.tail (.tail (.tail (.tail (.tail (.tail (.tail (.tail (.tail (.tail .head)))))))))))) | exact (.tail (.tail (.tail (.tail (.tail (.tail (.tail (.tail (.tail (.tail (.tail (.tail (.tail .head))))))))))))))))⟩, ?_⟩)
        refine GA_one 2 (by kernel_rfl) ?_
        refine GO_call rfl rfl rfl rfl rfl rfl Try.call26 (fun w hw => number_is (bs := (((bs.drop (24 + 40 * i.j)).take 40).drop 0).take 4) ((subB (lo := 0) hx hxc 4).keep hw (by simp)) (by simp only [List.length_take, List.length_drop]; omega) (by simp only [List.length_take, List.length_drop]; omega)) ?_
        rintro _ _ ⟨rfl, rfl⟩
        rw [show numAt ((((bs.drop (24 + 40 * i.j)).take 40).drop 0).take 4) 0 = numAt (bs.drop (24 + 40 * i.j)) 0 from by rw [numAt_take (by decide)]; simp only [numAt]; rw [bAt_take (by decide), bAt_take (by decide), bAt_take (by decide), bAt_take (by decide)]]
        refine GA_one 5 (by kernel_rfl) ?_
        refine GO_call rfl rfl rfl rfl rfl rfl Try.call26 (fun w hw => number_is (bs := (((bs.drop (24 + 40 * i.j)).take 40).drop 4).take 4) ((subB (lo := 4) hx hxc 4).keep hw (by simp)) (by simp only [List.length_take, List.length_drop]; omega) (by simp only [List.length_take, List.length_drop]; omega)) ?_
        rintro _ _ ⟨rfl, rfl⟩
        rw [show numAt ((((bs.drop (24 + 40 * i.j)).take 40).drop 4).take 4) 0 = numAt (bs.drop (24 + 40 * i.j)) 4 from by rw [numAt_take (by decide)]; simp only [numAt]; rw [bAt_take (by decide), bAt_take (by decide), bAt_take (by decide), bAt_take (by decide)]]
        refine GA_y 6 rfl (by kernel_rfl) (by kernel_rfl) (by kernel_rfl) (fun _ _ _ h => h) rfl rfl rfl (Y_build (v := .agg (segL (segP (bs.drop (24 + 40 * i.j)) 0)).toArray) (vs := [(0, .int .i64 (segP (bs.drop (24 + 40 * i.j)) 0).load), (1, .int .i64 (segP (bs.drop (24 + 40 * i.j)) 0).bytes)]) rfl (fun w => build47 _ w)) ?_
        refine GA_one 8 (by kernel_rfl) ?_
        refine GO_s rfl rfl rfl (S_all rfl rfl ag47 (segL_len _) (segL_all _) (by first | exact .head | exact (.tail .head) | exact (.tail (.tail .head)) | exact (.tail (.tail (.tail .head))) | exact (.tail (.tail (.tail (.tail .head)))) | exact (.tail (.tail (.tail (.tail (.tail .head))))) | exact (.tail (.tail (.tail (.tail (.tail (.tail .head)))))) | exact (.tail (.tail (.tail (.tail (.tail (.tail (.tail .head))))))) | exact (.tail (.tail (.tail (.tail (.tail (.tail (.tail (.tail .head)))))))) | exact (.tail (.tail (.tail (.tail (.tail (.tail (.tail (.tail (.tail .head))))))))) | exact (.tail (.tail (.tail (.tail (.tail (.tail (.tail (.tail (.tail (.tail .head)))))))))) | exact (.tail (.tail (.tail (.tail (.tail (.tail (.tail (.tail (.tail (.tail (.tail .head))))))))))) | exact (.tail (.tail (.tail (.tail (.tail (.tail (.tail (.tail (.tail (.tail (.tail (.tail .head)))))))))))) | exact (.tail (.tail (.tail (.tail (.tail (.tail (.tail (.tail (.tail (.tail (.tail (.tail (.tail .head)))))))))))))) (by rfl)) ?_
        refine GA_done (by kernel_rfl) ?_
        (repeat (first | (with_reducible refine R_seq ?_) | (with_reducible refine R_block_normal ?_)))
        (repeat (with_reducible refine G_seq ?_))
        refine G_region ?_
        refine GL_y rfl rfl (Y_assign rfl) ?_
        refine GL_nil ?_
        (repeat (first | (with_reducible refine R_seq ?_) | (with_reducible refine R_block_normal ?_)))
        (repeat (with_reducible refine G_seq ?_))
        refine G_block ?_
        (repeat (with_reducible refine G_seq ?_))
        refine G_loop (ι := Nat) (fun q => 32 - q) (fun q => q ≤ 32) (fun q => [(0, .slice ao bs.length c), (2, .pointer (some ⟨b2, 0, none⟩)), (3, .bool false), (4, .pointer (some ⟨b4, 0, none⟩)), (5, .int .i64 (numAt bs 20 : Nat)), (6, .int .i64 (i.j : Int)), (7, .slice (subA ao c (24 + 40 * i.j) 1) (64 + 40 * i.j - (24 + 40 * i.j)) (c - (24 + 40 * i.j))), (8, .pointer (some ⟨b8, 0, none⟩)), (9, .int .i64 (q : Int))]) (fun q => ⟨b8, 47, 34, segL (segP (bs.drop (24 + 40 * i.j)) q), (0, 0)⟩ :: ⟨b4, 24, 5, [Value.int .i64 (numAt bs 4 : Nat), .int .i64 (numAt bs 8 : Nat), .int .i64 (numAt bs 12 : Nat), .int .i64 (numAt bs 16 : Nat), .slice i.sa i.j i.sc], (0, 0)⟩ :: ⟨b2, 24, 5, [.int .i64 0, .int .i64 0, .int .i64 0, .int .i64 0, .slice none 0 0], (0, 0)⟩ :: i.NS) 0 ?_ (⟨by first | rfl | decide, by first | rfl | decide, by first | rfl | decide, by first | rfl | decide, by first | rfl | decide, by first | rfl | decide, by first | rfl | decide, by first | rfl | decide, by first | rfl | decide, trivial⟩) (by repeat (first | exact .nil | exact Pick.rfl' _ | exact Pick.skip (Pick.rfl' _) | exact Pick.skip (Pick.skip (Pick.rfl' _)) | (apply Pick.cons; focus (first | exact .head | exact (.tail .head) | exact (.tail (.tail .head)) | exact (.tail (.tail (.tail .head))) | exact (.tail (.tail (.tail (.tail .head)))) | exact (.tail (.tail (.tail (.tail (.tail .head))))) | exact (.tail (.tail (.tail (.tail (.tail (.tail .head)))))) | exact (.tail (.tail (.tail (.tail (.tail (.tail (.tail .head))))))) | exact (.tail (.tail (.tail (.tail (.tail (.tail (.tail (.tail .head)))))))) | exact (.tail (.tail (.tail (.tail (.tail (.tail (.tail (.tail (.tail .head))))))))) | exact (.tail (.tail (.tail (.tail (.tail (.tail (.tail (.tail (.tail (.tail .head)))))))))) | exact (.tail (.tail (.tail (.tail (.tail (.tail (.tail (.tail (.tail (.tail (.tail .head))))))))))) | exact (.tail (.tail (.tail (.tail (.tail (.tail (.tail (.tail (.tail (.tail (.tail (.tail .head)))))))))))) | exact (.tail (.tail (.tail (.tail (.tail (.tail (.tail (.tail (.tail (.tail (.tail (.tail (.tail .head))))))))))))))))) ?_
        · omega
        intro q hq
        (repeat (with_reducible refine G_seq ?_))
        refine G_region ?_
        refine GL_y rfl rfl (Y_move rfl) ?_
        refine GL_y rfl rfl (Y_lssN (b := 32) rfl rfl) ?_
        refine GL_nil ?_
        (repeat (first | (with_reducible refine R_seq ?_) | (with_reducible refine R_block_normal ?_)))
        (repeat (with_reducible refine G_seq ?_))
        refine G_cond_dec rfl (fun ht65 => ?_) (fun ht65 => ?_)
        · -- yes
          (repeat (with_reducible refine G_seq ?_))
          refine G_skip ?_
          (repeat (first | (with_reducible refine R_seq ?_) | (with_reducible refine R_block_normal ?_)))
          (repeat (with_reducible refine G_seq ?_))
          refine G_block ?_
          have hxq : ((bs.drop (24 + 40 * i.j)).take 40)[8 + q]? = some (bAt (bs.drop (24 + 40 * i.j)) (8 + q)) := by
            rw [List.getElem?_take, if_pos (by omega)]; exact bAt_some (by rw [List.length_drop]; omega)
          (repeat (with_reducible refine G_seq ?_))
          refine G_region ?_
          refine GL_y rfl rfl (Y_move rfl) ?_
          refine GL_y rfl rfl (Y_move rfl) ?_
          refine GL_y rfl rfl (Y_move rfl) ?_
          refine GL_y rfl rfl (Y_addN (a := 8) rfl rfl (by omega)) ?_
          refine GL_y rfl rfl (Y_bAt (j := 8 + q) (bs := (bs.drop (24 + 40 * i.j)).take 40) hx rfl rfl hxq (by simp only [List.length_take, List.length_drop]; omega)) ?_
          refine GL_y rfl rfl (Y_bGet hx (by simp) rfl hxq) ?_
          refine GL_y rfl rfl (Y_field fd47_2 rfl) ?_
          refine GL_y rfl rfl (Y_idxA1 ar45 rfl rfl (by first | omega | decide)) ?_
          refine GL_s rfl (S_sc rfl sc5 rfl rfl (by first | exact .head | exact (.tail .head) | exact (.tail (.tail .head)) | exact (.tail (.tail (.tail .head))) | exact (.tail (.tail (.tail (.tail .head)))) | exact (.tail (.tail (.tail (.tail (.tail .head))))) | exact (.tail (.tail (.tail (.tail (.tail (.tail .head)))))) | exact (.tail (.tail (.tail (.tail (.tail (.tail (.tail .head))))))) | exact (.tail (.tail (.tail (.tail (.tail (.tail (.tail (.tail .head)))))))) | exact (.tail (.tail (.tail (.tail (.tail (.tail (.tail (.tail (.tail .head))))))))) | exact (.tail (.tail (.tail (.tail (.tail (.tail (.tail (.tail (.tail (.tail .head)))))))))) | exact (.tail (.tail (.tail (.tail (.tail (.tail (.tail (.tail (.tail (.tail (.tail .head))))))))))) | exact (.tail (.tail (.tail (.tail (.tail (.tail (.tail (.tail (.tail (.tail (.tail (.tail .head)))))))))))) | exact (.tail (.tail (.tail (.tail (.tail (.tail (.tail (.tail (.tail (.tail (.tail (.tail (.tail .head)))))))))))))) (segP_set _ ht65)) ?_
          refine GL_nil ?_
          (repeat (first | (with_reducible refine R_seq ?_) | (with_reducible refine R_block_normal ?_)))
          (repeat (with_reducible refine G_seq ?_))
          refine G_region ?_
          refine GL_y rfl rfl (Y_move rfl) ?_
          refine GL_y rfl rfl (Y_addN (b := 1) rfl rfl (by first | omega | decide)) ?_
          refine GL_y rfl rfl (Y_assign rfl) ?_
          refine GL_nil ?_
          (repeat (first | (with_reducible refine R_seq ?_) | (with_reducible refine R_block_normal ?_)))
          (repeat (with_reducible refine R_block_normal ?_))
          refine R_fam (q + 1) ?_ (⟨by first | rfl | decide, by first | rfl | decide, by first | rfl | decide, by first | rfl | decide, by first | rfl | decide, by first | rfl | decide, by first | rfl | decide, by first | rfl | decide, by first | rfl | decide, trivial⟩) (by repeat (first | exact .nil | exact Pick.rfl' _ | exact Pick.skip (Pick.rfl' _) | exact Pick.skip (Pick.skip (Pick.rfl' _)) | (apply Pick.cons; focus (first | exact .head | exact (.tail .head) | exact (.tail (.tail .head)) | exact (.tail (.tail (.tail .head))) | exact (.tail (.tail (.tail (.tail .head)))) | exact (.tail (.tail (.tail (.tail (.tail .head))))) | exact (.tail (.tail (.tail (.tail (.tail (.tail .head)))))) | exact (.tail (.tail (.tail (.tail (.tail (.tail (.tail .head))))))) | exact (.tail (.tail (.tail (.tail (.tail (.tail (.tail (.tail .head)))))))) | exact (.tail (.tail (.tail (.tail (.tail (.tail (.tail (.tail (.tail .head))))))))) | exact (.tail (.tail (.tail (.tail (.tail (.tail (.tail (.tail (.tail (.tail .head)))))))))) | exact (.tail (.tail (.tail (.tail (.tail (.tail (.tail (.tail (.tail (.tail (.tail .head))))))))))) | exact (.tail (.tail (.tail (.tail (.tail (.tail (.tail (.tail (.tail (.tail (.tail (.tail .head)))))))))))) | exact (.tail (.tail (.tail (.tail (.tail (.tail (.tail (.tail (.tail (.tail (.tail (.tail (.tail .head)))))))))))))))))
          exact ⟨by omega, by omega⟩
        · -- no
          (repeat (with_reducible refine G_seq ?_))
          refine G_exit ?_
          (repeat (first | (with_reducible refine R_then_exit ?_) | (with_reducible refine R_block_exit ?_) | (with_reducible refine R_block_other (by decide) ?_)))
          (repeat (first | (with_reducible refine R_seq ?_) | (with_reducible refine R_block_normal ?_)))
          obtain rfl : q = 32 := by omega
          (repeat (with_reducible refine G_seq ?_))
          refine G_region ?_
          refine GL_y rfl rfl (Y_field fd24_4 rfl) ?_
          refine GL_y rfl rfl (Y_loadS rfl sc22 (by first | exact .head _ | exact .tail _ (.head _) | exact .tail _ (.tail _ (.head _)) | exact .tail _ (.tail _ (.tail _ (.head _))) | exact .tail _ (.tail _ (.tail _ (.tail _ (.head _)))) | exact .tail _ (.tail _ (.tail _ (.tail _ (.tail _ (.head _))))) | exact .tail _ (.tail _ (.tail _ (.tail _ (.tail _ (.tail _ (.head _)))))) | exact .tail _ (.tail _ (.tail _ (.tail _ (.tail _ (.tail _ (.tail _ (.head _))))))) | exact .tail _ (.tail _ (.tail _ (.tail _ (.tail _ (.tail _ (.tail _ (.tail _ (.head _)))))))) | exact .tail _ (.tail _ (.tail _ (.tail _ (.tail _ (.tail _ (.tail _ (.tail _ (.tail _ (.head _))))))))) | exact .tail _ (.tail _ (.tail _ (.tail _ (.tail _ (.tail _ (.tail _ (.tail _ (.tail _ (.tail _ (.head _)))))))))) | exact .tail _ (.tail _ (.tail _ (.tail _ (.tail _ (.tail _ (.tail _ (.tail _ (.tail _ (.tail _ (.tail _ (.head _))))))))))) | exact .tail _ (.tail _ (.tail _ (.tail _ (.tail _ (.tail _ (.tail _ (.tail _ (.tail _ (.tail _ (.tail _ (.tail _ (.head _)))))))))))) | exact .tail _ (.tail _ (.tail _ (.tail _ (.tail _ (.tail _ (.tail _ (.tail _ (.tail _ (.tail _ (.tail _ (.tail _ (.tail _ (.head _)))))))))))))) (by rfl)) ?_
          refine GL_y rfl rfl (Y_loadA (xs := segL (segP (bs.drop (24 + 40 * i.j)) 32)) rfl (by first | exact .head _ | exact .tail _ (.head _) | exact .tail _ (.tail _ (.head _)) | exact .tail _ (.tail _ (.tail _ (.head _))) | exact .tail _ (.tail _ (.tail _ (.tail _ (.head _)))) | exact .tail _ (.tail _ (.tail _ (.tail _ (.tail _ (.head _))))) | exact .tail _ (.tail _ (.tail _ (.tail _ (.tail _ (.tail _ (.head _)))))) | exact .tail _ (.tail _ (.tail _ (.tail _ (.tail _ (.tail _ (.tail _ (.head _))))))) | exact .tail _ (.tail _ (.tail _ (.tail _ (.tail _ (.tail _ (.tail _ (.tail _ (.head _)))))))) | exact .tail _ (.tail _ (.tail _ (.tail _ (.tail _ (.tail _ (.tail _ (.tail _ (.tail _ (.head _))))))))) | exact .tail _ (.tail _ (.tail _ (.tail _ (.tail _ (.tail _ (.tail _ (.tail _ (.tail _ (.tail _ (.head _)))))))))) | exact .tail _ (.tail _ (.tail _ (.tail _ (.tail _ (.tail _ (.tail _ (.tail _ (.tail _ (.tail _ (.tail _ (.head _))))))))))) | exact .tail _ (.tail _ (.tail _ (.tail _ (.tail _ (.tail _ (.tail _ (.tail _ (.tail _ (.tail _ (.tail _ (.tail _ (.head _)))))))))))) | exact .tail _ (.tail _ (.tail _ (.tail _ (.tail _ (.tail _ (.tail _ (.tail _ (.tail _ (.tail _ (.tail _ (.tail _ (.tail _ (.head _)))))))))))))) ag47 (segL_len _)) ?_
          refine GL_w rfl rfl (W_bs1 (xs := segL (segP (bs.drop (24 + 40 * i.j)) 32)) Try.underlying22 el47 rfl (segL_len _) (by decide) (by decide) fun b79 => ?_)
          refine GL_w rfl rfl (W_appRec (r := segsAt bs i.j) (a := segOf (bs.drop (24 + 40 * i.j))) segL_len segL_all (by decide) (by decide) Try.underlying22 el47 hO rfl (segsAt_len _ _).symm rfl (by rw [segsAt_len]; omega) (.skip (.skip (.skip (.skip (Pick.rfl' _))))) (by first | exact .head _ | exact .tail _ (.head _) | exact .tail _ (.tail _ (.head _)) | exact .tail _ (.tail _ (.tail _ (.head _))) | exact .tail _ (.tail _ (.tail _ (.tail _ (.head _)))) | exact .tail _ (.tail _ (.tail _ (.tail _ (.tail _ (.head _))))) | exact .tail _ (.tail _ (.tail _ (.tail _ (.tail _ (.tail _ (.head _)))))) | exact .tail _ (.tail _ (.tail _ (.tail _ (.tail _ (.tail _ (.tail _ (.head _))))))) | exact .tail _ (.tail _ (.tail _ (.tail _ (.tail _ (.tail _ (.tail _ (.tail _ (.head _)))))))) | exact .tail _ (.tail _ (.tail _ (.tail _ (.tail _ (.tail _ (.tail _ (.tail _ (.tail _ (.head _))))))))) | exact .tail _ (.tail _ (.tail _ (.tail _ (.tail _ (.tail _ (.tail _ (.tail _ (.tail _ (.tail _ (.head _)))))))))) | exact .tail _ (.tail _ (.tail _ (.tail _ (.tail _ (.tail _ (.tail _ (.tail _ (.tail _ (.tail _ (.tail _ (.head _))))))))))) | exact .tail _ (.tail _ (.tail _ (.tail _ (.tail _ (.tail _ (.tail _ (.tail _ (.tail _ (.tail _ (.tail _ (.tail _ (.head _)))))))))))) | exact .tail _ (.tail _ (.tail _ (.tail _ (.tail _ (.tail _ (.tail _ (.tail _ (.tail _ (.tail _ (.tail _ (.tail _ (.tail _ (.head _)))))))))))))) fun b80 c80 h80 => ?_)
          refine GL_y rfl rfl (Y_field fd24_4 rfl) ?_
          refine GL_s rfl (S_sc rfl sc22 rfl rfl (by first | exact .head | exact (.tail .head) | exact (.tail (.tail .head)) | exact (.tail (.tail (.tail .head))) | exact (.tail (.tail (.tail (.tail .head)))) | exact (.tail (.tail (.tail (.tail (.tail .head))))) | exact (.tail (.tail (.tail (.tail (.tail (.tail .head)))))) | exact (.tail (.tail (.tail (.tail (.tail (.tail (.tail .head))))))) | exact (.tail (.tail (.tail (.tail (.tail (.tail (.tail (.tail .head)))))))) | exact (.tail (.tail (.tail (.tail (.tail (.tail (.tail (.tail (.tail .head))))))))) | exact (.tail (.tail (.tail (.tail (.tail (.tail (.tail (.tail (.tail (.tail .head)))))))))) | exact (.tail (.tail (.tail (.tail (.tail (.tail (.tail (.tail (.tail (.tail (.tail .head))))))))))) | exact (.tail (.tail (.tail (.tail (.tail (.tail (.tail (.tail (.tail (.tail (.tail (.tail .head)))))))))))) | exact (.tail (.tail (.tail (.tail (.tail (.tail (.tail (.tail (.tail (.tail (.tail (.tail (.tail .head)))))))))))))) (by rfl)) ?_
          refine GL_nil ?_
          (repeat (first | (with_reducible refine R_seq ?_) | (with_reducible refine R_block_normal ?_)))
          (repeat (with_reducible refine G_seq ?_))
          refine G_region ?_
          refine GL_y rfl rfl (Y_move rfl) ?_
          refine GL_y rfl rfl (Y_addN (b := 1) rfl rfl (by first | omega | decide)) ?_
          refine GL_y rfl rfl (Y_assign rfl) ?_
          refine GL_nil ?_
          (repeat (first | (with_reducible refine R_seq ?_) | (with_reducible refine R_block_normal ?_)))
          (repeat (with_reducible refine R_block_normal ?_))
          rw [show segsAt bs i.j ++ [segOf (bs.drop (24 + 40 * i.j))] = segsAt bs (i.j + 1) from (segsAt_succ _ _).symm, segsAt_len]
          refine R_fam ⟨i.j + 1, [⟨b80, 47, c80 * 34, recL segL (segsAt bs (i.j + 1)), (0, 0)⟩], some ⟨b80, 0, none⟩, c80⟩ ?_ (⟨by first | rfl | decide, by first | rfl | decide, by first | rfl | decide, by first | rfl | decide, by first | rfl | decide, by first | rfl | decide, trivial⟩) (by repeat (first | exact .nil | exact Pick.rfl' _ | exact Pick.skip (Pick.rfl' _) | exact Pick.skip (Pick.skip (Pick.rfl' _)) | (apply Pick.cons; focus (first | exact .head | exact (.tail .head) | exact (.tail (.tail .head)) | exact (.tail (.tail (.tail .head))) | exact (.tail (.tail (.tail (.tail .head)))) | exact (.tail (.tail (.tail (.tail (.tail .head))))) | exact (.tail (.tail (.tail (.tail (.tail (.tail .head)))))) | exact (.tail (.tail (.tail (.tail (.tail (.tail (.tail .head))))))) | exact (.tail (.tail (.tail (.tail (.tail (.tail (.tail (.tail .head)))))))) | exact (.tail (.tail (.tail (.tail (.tail (.tail (.tail (.tail (.tail .head))))))))) | exact (.tail (.tail (.tail (.tail (.tail (.tail (.tail (.tail (.tail (.tail .head)))))))))) | exact (.tail (.tail (.tail (.tail (.tail (.tail (.tail (.tail (.tail (.tail (.tail .head))))))))))) | exact (.tail (.tail (.tail (.tail (.tail (.tail (.tail (.tail (.tail (.tail (.tail (.tail .head)))))))))))) | exact (.tail (.tail (.tail (.tail (.tail (.tail (.tail (.tail (.tail (.tail (.tail (.tail (.tail .head)))))))))))))))))
          exact ⟨⟨by simp only; omega, .inr ⟨b80, rfl, rfl⟩⟩, by simp only; omega⟩
    · -- no
      (repeat (with_reducible refine G_seq ?_))
      refine G_exit ?_
      (repeat (first | (with_reducible refine R_then_exit ?_) | (with_reducible refine R_block_exit ?_) | (with_reducible refine R_block_other (by decide) ?_)))
      (repeat (first | (with_reducible refine R_seq ?_) | (with_reducible refine R_block_normal ?_)))
      have hjn : i.j = numAt bs 20 := by omega
      have hM : [Value.int .i64 (numAt bs 4 : Nat), .int .i64 (numAt bs 8 : Nat), .int .i64 (numAt bs 12 : Nat), .int .i64 (numAt bs 16 : Nat), .slice i.sa i.j i.sc] = manL (parseD bs) i.sa i.sc := by
        show _ = [Value.int .i64 (numAt bs 4 : Nat), .int .i64 (numAt bs 8 : Nat), .int .i64 (numAt bs 12 : Nat), .int .i64 (numAt bs 16 : Nat), .slice i.sa (segsAt bs (numAt bs 20)).length i.sc]
        rw [segsAt_len, hjn]
      have hOf : OwnR segL 47 34 i.NS i.sa i.sc (parseD bs).segs := by
        show OwnR segL 47 34 i.NS i.sa i.sc (segsAt bs (numAt bs 20))
        rw [← hjn]; exact hO
      refine G_blk hM ?_
      (repeat (with_reducible refine G_seq ?_))
      refine G_draw [] 11 rfl (by kernel_rfl) ?_
      refine GA_l 0 rfl (by kernel_rfl) (by kernel_rfl) (by kernel_rfl) (fun _ _ _ h => h) rfl rfl rfl rfl (Y_loadA (b := b4) (xs := manL (parseD bs) i.sa i.sc) rfl (by first | exact .head _ | exact .tail _ (.head _) | exact .tail _ (.tail _ (.head _)) | exact .tail _ (.tail _ (.tail _ (.head _))) | exact .tail _ (.tail _ (.tail _ (.tail _ (.head _)))) | exact .tail _ (.tail _ (.tail _ (.tail _ (.tail _ (.head _))))) | exact .tail _ (.tail _ (.tail _ (.tail _ (.tail _ (.tail _ (.head _)))))) | exact .tail _ (.tail _ (.tail _ (.tail _ (.tail _ (.tail _ (.tail _ (.head _))))))) | exact .tail _ (.tail _ (.tail _ (.tail _ (.tail _ (.tail _ (.tail _ (.tail _ (.head _)))))))) | exact .tail _ (.tail _ (.tail _ (.tail _ (.tail _ (.tail _ (.tail _ (.tail _ (.tail _ (.head _))))))))) | exact .tail _ (.tail _ (.tail _ (.tail _ (.tail _ (.tail _ (.tail _ (.tail _ (.tail _ (.tail _ (.head _)))))))))) | exact .tail _ (.tail _ (.tail _ (.tail _ (.tail _ (.tail _ (.tail _ (.tail _ (.tail _ (.tail _ (.tail _ (.head _))))))))))) | exact .tail _ (.tail _ (.tail _ (.tail _ (.tail _ (.tail _ (.tail _ (.tail _ (.tail _ (.tail _ (.tail _ (.tail _ (.head _)))))))))))) | exact .tail _ (.tail _ (.tail _ (.tail _ (.tail _ (.tail _ (.tail _ (.tail _ (.tail _ (.tail _ (.tail _ (.tail _ (.tail _ (.head _)))))))))))))) ag24 rfl) ?_
      refine GA_one 1 (by kernel_rfl) ?_
      refine GO_call rfl rfl rfl rfl rfl rfl Try.call9 (fun w hw => refMay_is (m := parseD bs) (ao := i.sa) (c := i.sc) (hOf.sl ((show SL _ (⟨b4, 24, 5, manL (parseD bs) i.sa i.sc, (0, 0)⟩ :: ⟨b2, 24, 5, [.int .i64 0, .int .i64 0, .int .i64 0, .int .i64 0, .slice none 0 0], (0, 0)⟩ :: i.NS) _ _ from hw).tail.tail)) (by show (segsAt bs _).length ≤ 1000; rw [segsAt_len]; omega) hm) ?_
      rintro _ _ ⟨rfl, rfl⟩
      refine GA_y 2 rfl (by kernel_rfl) (by kernel_rfl) (by kernel_rfl) (fun _ _ _ h => h) rfl rfl rfl (Y_not rfl) ?_
      refine GA_y 3 rfl (by kernel_rfl) (by kernel_rfl) (by kernel_rfl) (fun _ _ _ h => h) rfl rfl rfl (Y_move rfl) ?_
      refine GA_l 4 rfl (by kernel_rfl) (by kernel_rfl) (by kernel_rfl) (fun _ _ _ h => h) rfl rfl rfl rfl (Y_loadA (b := b4) (xs := manL (parseD bs) i.sa i.sc) rfl (by first | exact .head _ | exact .tail _ (.head _) | exact .tail _ (.tail _ (.head _)) | exact .tail _ (.tail _ (.tail _ (.head _))) | exact .tail _ (.tail _ (.tail _ (.tail _ (.head _)))) | exact .tail _ (.tail _ (.tail _ (.tail _ (.tail _ (.head _))))) | exact .tail _ (.tail _ (.tail _ (.tail _ (.tail _ (.tail _ (.head _)))))) | exact .tail _ (.tail _ (.tail _ (.tail _ (.tail _ (.tail _ (.tail _ (.head _))))))) | exact .tail _ (.tail _ (.tail _ (.tail _ (.tail _ (.tail _ (.tail _ (.tail _ (.head _)))))))) | exact .tail _ (.tail _ (.tail _ (.tail _ (.tail _ (.tail _ (.tail _ (.tail _ (.tail _ (.head _))))))))) | exact .tail _ (.tail _ (.tail _ (.tail _ (.tail _ (.tail _ (.tail _ (.tail _ (.tail _ (.tail _ (.head _)))))))))) | exact .tail _ (.tail _ (.tail _ (.tail _ (.tail _ (.tail _ (.tail _ (.tail _ (.tail _ (.tail _ (.tail _ (.head _))))))))))) | exact .tail _ (.tail _ (.tail _ (.tail _ (.tail _ (.tail _ (.tail _ (.tail _ (.tail _ (.tail _ (.tail _ (.tail _ (.head _)))))))))))) | exact .tail _ (.tail _ (.tail _ (.tail _ (.tail _ (.tail _ (.tail _ (.tail _ (.tail _ (.tail _ (.tail _ (.tail _ (.tail _ (.head _)))))))))))))) ag24 rfl) ?_
      refine GA_y 7 rfl (by kernel_rfl) (by kernel_rfl) (by kernel_rfl) (fun _ _ _ h => h) rfl rfl rfl (Y_move rfl) ?_
      refine GA_y 8 rfl (by kernel_rfl) (by kernel_rfl) (by kernel_rfl) (fun _ _ _ h => h) rfl rfl rfl (Y_str (bs := bs) Try.underlying25 Try.underlying5 Try.underlying9 rfl rfl (fun w s => hs.keep s (by simp))) ?_
      refine GA_one 5 (by kernel_rfl) ?_
      refine GO_call rfl rfl rfl rfl rfl rfl Try.call11 (fun w hw => refBytes_is (m := parseD bs) (ao := i.sa) (c := i.sc) (hOf.sl ((show SL _ (⟨b4, 24, 5, manL (parseD bs) i.sa i.sc, (0, 0)⟩ :: ⟨b2, 24, 5, [.int .i64 0, .int .i64 0, .int .i64 0, .int .i64 0, .slice none 0 0], (0, 0)⟩ :: i.NS) _ _ from hw).tail.tail)) (by show (segsAt bs _).length ≤ 1000; rw [segsAt_len]; omega) hm) ?_
      rintro _ _ ⟨b87, c87, _, rfl, rfl⟩
      refine GA_l 6 rfl (by kernel_rfl) (by kernel_rfl) (by kernel_rfl) (fun _ _ _ h => h) rfl rfl rfl rfl (Y_str (bs := bytesM (parseD bs)) Try.underlying25 Try.underlying5 Try.underlying9 rfl rfl (fun w s => SlAt.mk' (s.cells (k := ⟨b87, 5, c87 * 1, B (bytesM (parseD bs)), (0, 0)⟩) (by first | exact .head _ | exact .tail _ (.head _) | exact .tail _ (.tail _ (.head _)) | exact .tail _ (.tail _ (.tail _ (.head _))) | exact .tail _ (.tail _ (.tail _ (.tail _ (.head _)))) | exact .tail _ (.tail _ (.tail _ (.tail _ (.tail _ (.head _))))) | exact .tail _ (.tail _ (.tail _ (.tail _ (.tail _ (.tail _ (.head _)))))) | exact .tail _ (.tail _ (.tail _ (.tail _ (.tail _ (.tail _ (.tail _ (.head _))))))) | exact .tail _ (.tail _ (.tail _ (.tail _ (.tail _ (.tail _ (.tail _ (.tail _ (.head _)))))))) | exact .tail _ (.tail _ (.tail _ (.tail _ (.tail _ (.tail _ (.tail _ (.tail _ (.tail _ (.head _))))))))) | exact .tail _ (.tail _ (.tail _ (.tail _ (.tail _ (.tail _ (.tail _ (.tail _ (.tail _ (.tail _ (.head _)))))))))) | exact .tail _ (.tail _ (.tail _ (.tail _ (.tail _ (.tail _ (.tail _ (.tail _ (.tail _ (.tail _ (.tail _ (.head _))))))))))) | exact .tail _ (.tail _ (.tail _ (.tail _ (.tail _ (.tail _ (.tail _ (.tail _ (.tail _ (.tail _ (.tail _ (.tail _ (.head _)))))))))))) | exact .tail _ (.tail _ (.tail _ (.tail _ (.tail _ (.tail _ (.tail _ (.tail _ (.tail _ (.tail _ (.tail _ (.tail _ (.tail _ (.head _))))))))))))))))) ?_
      refine GA_y 9 rfl (by kernel_rfl) (by kernel_rfl) (by kernel_rfl) (fun _ _ _ h => h) rfl rfl rfl (Y_neqstr rfl rfl) ?_
      refine GA_y 10 rfl (by kernel_rfl) (by kernel_rfl) (by kernel_rfl) (fun _ _ _ h => h) rfl rfl rfl (Y_pick rfl rfl rfl rfl) ?_
      refine GA_done (by kernel_rfl) ?_
      (repeat (first | (with_reducible refine R_seq ?_) | (with_reducible refine R_block_normal ?_)))
      (repeat (with_reducible refine G_seq ?_))
      refine G_cond_t rfl (by simp [hb]) ?_
      (repeat (with_reducible refine G_seq ?_))
      refine G_region ?_
      refine GL_y rfl rfl (Y_build (vs := []) rfl build24) ?_
      refine GL_s rfl (S_all rfl rfl ag24 (by rfl) (by rfl) (by first | exact .head | exact (.tail .head) | exact (.tail (.tail .head)) | exact (.tail (.tail (.tail .head))) | exact (.tail (.tail (.tail (.tail .head)))) | exact (.tail (.tail (.tail (.tail (.tail .head))))) | exact (.tail (.tail (.tail (.tail (.tail (.tail .head)))))) | exact (.tail (.tail (.tail (.tail (.tail (.tail (.tail .head))))))) | exact (.tail (.tail (.tail (.tail (.tail (.tail (.tail (.tail .head)))))))) | exact (.tail (.tail (.tail (.tail (.tail (.tail (.tail (.tail (.tail .head))))))))) | exact (.tail (.tail (.tail (.tail (.tail (.tail (.tail (.tail (.tail (.tail .head)))))))))) | exact (.tail (.tail (.tail (.tail (.tail (.tail (.tail (.tail (.tail (.tail (.tail .head))))))))))) | exact (.tail (.tail (.tail (.tail (.tail (.tail (.tail (.tail (.tail (.tail (.tail (.tail .head)))))))))))) | exact (.tail (.tail (.tail (.tail (.tail (.tail (.tail (.tail (.tail (.tail (.tail (.tail (.tail .head)))))))))))))) (by rfl)) ?_
      refine GL_y rfl rfl (Y_assign rfl) ?_
      refine GL_nil ?_
      (repeat (first | (with_reducible refine R_seq ?_) | (with_reducible refine R_block_normal ?_)))
      (repeat (with_reducible refine G_seq ?_))
      refine G_ret ?_
      (repeat (first | (with_reducible refine R_then_ret ?_) | (with_reducible refine R_block_ret ?_)))
      exact R_ret (.ag rfl (by first | exact .head _ | exact .tail _ (.head _) | exact .tail _ (.tail _ (.head _)) | exact .tail _ (.tail _ (.tail _ (.head _))) | exact .tail _ (.tail _ (.tail _ (.tail _ (.head _)))) | exact .tail _ (.tail _ (.tail _ (.tail _ (.tail _ (.head _))))) | exact .tail _ (.tail _ (.tail _ (.tail _ (.tail _ (.tail _ (.head _)))))) | exact .tail _ (.tail _ (.tail _ (.tail _ (.tail _ (.tail _ (.tail _ (.head _))))))) | exact .tail _ (.tail _ (.tail _ (.tail _ (.tail _ (.tail _ (.tail _ (.tail _ (.head _)))))))) | exact .tail _ (.tail _ (.tail _ (.tail _ (.tail _ (.tail _ (.tail _ (.tail _ (.tail _ (.head _))))))))) | exact .tail _ (.tail _ (.tail _ (.tail _ (.tail _ (.tail _ (.tail _ (.tail _ (.tail _ (.tail _ (.head _)))))))))) | exact .tail _ (.tail _ (.tail _ (.tail _ (.tail _ (.tail _ (.tail _ (.tail _ (.tail _ (.tail _ (.tail _ (.head _))))))))))) | exact .tail _ (.tail _ (.tail _ (.tail _ (.tail _ (.tail _ (.tail _ (.tail _ (.tail _ (.tail _ (.tail _ (.tail _ (.head _)))))))))))) | exact .tail _ (.tail _ (.tail _ (.tail _ (.tail _ (.tail _ (.tail _ (.tail _ (.tail _ (.tail _ (.tail _ (.tail _ (.tail _ (.head _)))))))))))))) (by exact ag24) (.tmp rfl .nil)) [] .nil ⟨rfl, rfl⟩
set_option maxHeartbeats 4000000 in
theorem refp_ok {ao : Option Addr} {c : Nat} {bs : List UInt8} {w : World} (hs : SlAt w ao (B bs)) (hc : bs.length ≤ c) (h24 : 24 ≤ bs.length) (h8 : numAt bs 20 ≤ 8) (hl : bs.length = 24 + 40 * numAt bs 20) (hm : mayM (parseD bs) = true) (hb : bytesM (parseD bs) = bs) : FnAt Try.prog 13 [.slice ao bs.length c] [] w (Ret fun v N => ∃ sa c', v = .tuple #[.agg (manL (parseD bs) sa c').toArray, .bool true] ∧ OwnR segL 47 34 N sa c' (parseD bs).segs) := by
  refine FnAt.intro Try.func13 rfl Try.ntmps13 rfl _ rfl ?_
  (repeat (with_reducible refine G_seq ?_))
  refine G_region ?_
  refine GL_w rfl rfl (W_alloc zr24 fun b2 => ?_)
  refine GL_y rfl rfl (Y_assign rfl) ?_
  refine GL_nil ?_
  (repeat (first | (with_reducible refine R_seq ?_) | (with_reducible refine R_block_normal ?_)))
  (repeat (with_reducible refine G_seq ?_))
  refine G_region ?_
  refine GL_w rfl rfl (W_alloc zr24 fun b4 => ?_)
  refine GL_nil ?_
  (repeat (first | (with_reducible refine R_seq ?_) | (with_reducible refine R_block_normal ?_)))
  (repeat (with_reducible refine G_seq ?_))
  refine G_region ?_
  refine GL_y rfl rfl (Y_move rfl) ?_
  refine GL_y rfl rfl (Y_len sl25 rfl) ?_
  refine GL_y rfl rfl (Y_lssN (b := 24) rfl rfl) ?_
  refine GL_nil ?_
  (repeat (first | (with_reducible refine R_seq ?_) | (with_reducible refine R_block_normal ?_)))
  (repeat (with_reducible refine G_seq ?_))
  refine G_cond_f rfl (by simp; omega) ?_
  (repeat (with_reducible refine G_seq ?_))
  refine G_skip ?_
  (repeat (first | (with_reducible refine R_seq ?_) | (with_reducible refine R_block_normal ?_)))
  (repeat (with_reducible refine G_seq ?_))
  refine G_region ?_
  refine GL_y rfl rfl (Y_move rfl) ?_
  refine GL_y rfl rfl (Y_slS (vl := some _) (vh := some _) (kl := 4) (kh := 8) sl25 rfl rfl rfl ⟨_, rfl⟩ ⟨_, rfl⟩ (by omega) (by omega) hc) ?_
  refine GL_call rfl rfl rfl rfl Try.call26 .nil (fun w hw => number_is (bs := (bs.drop 4).take 4) ((subB (lo := 4) hs hc 4).keep hw (by simp)) (by rw [List.length_take, List.length_drop]; omega) (by rw [List.length_take, List.length_drop]; omega)) ?_
  rintro _ _ ⟨rfl, rfl⟩
  rw [show numAt ((bs.drop 4).take 4) 0 = numAt bs 4 from numAt_take (l := bs) (p := 4) (n := 4) (i := 0) (by decide)]
  refine GL_y rfl rfl (Y_field fd24_0 rfl) ?_
  refine GL_s rfl (S_sc rfl sc3 rfl rfl (by first | exact .head | exact (.tail .head) | exact (.tail (.tail .head)) | exact (.tail (.tail (.tail .head))) | exact (.tail (.tail (.tail (.tail .head)))) | exact (.tail (.tail (.tail (.tail (.tail .head))))) | exact (.tail (.tail (.tail (.tail (.tail (.tail .head)))))) | exact (.tail (.tail (.tail (.tail (.tail (.tail (.tail .head))))))) | exact (.tail (.tail (.tail (.tail (.tail (.tail (.tail (.tail .head)))))))) | exact (.tail (.tail (.tail (.tail (.tail (.tail (.tail (.tail (.tail .head))))))))) | exact (.tail (.tail (.tail (.tail (.tail (.tail (.tail (.tail (.tail (.tail .head)))))))))) | exact (.tail (.tail (.tail (.tail (.tail (.tail (.tail (.tail (.tail (.tail (.tail .head))))))))))) | exact (.tail (.tail (.tail (.tail (.tail (.tail (.tail (.tail (.tail (.tail (.tail (.tail .head)))))))))))) | exact (.tail (.tail (.tail (.tail (.tail (.tail (.tail (.tail (.tail (.tail (.tail (.tail (.tail .head)))))))))))))) (by rfl)) ?_
  refine GL_nil ?_
  (repeat (first | (with_reducible refine R_seq ?_) | (with_reducible refine R_block_normal ?_)))
  (repeat (with_reducible refine G_seq ?_))
  refine G_region ?_
  refine GL_y rfl rfl (Y_move rfl) ?_
  refine GL_y rfl rfl (Y_slS (vl := some _) (vh := some _) (kl := 8) (kh := 12) sl25 rfl rfl rfl ⟨_, rfl⟩ ⟨_, rfl⟩ (by omega) (by omega) hc) ?_
  refine GL_call rfl rfl rfl rfl Try.call26 .nil (fun w hw => number_is (bs := (bs.drop 8).take 4) ((subB (lo := 8) hs hc 4).keep hw (by simp)) (by rw [List.length_take, List.length_drop]; omega) (by rw [List.length_take, List.length_drop]; omega)) ?_
  rintro _ _ ⟨rfl, rfl⟩
  rw [show numAt ((bs.drop 8).take 4) 0 = numAt bs 8 from numAt_take (l := bs) (p := 8) (n := 4) (i := 0) (by decide)]
  refine GL_y rfl rfl (Y_field fd24_1 rfl) ?_
  refine GL_s rfl (S_sc rfl sc3 rfl rfl (by first | exact .head | exact (.tail .head) | exact (.tail (.tail .head)) | exact (.tail (.tail (.tail .head))) | exact (.tail (.tail (.tail (.tail .head)))) | exact (.tail (.tail (.tail (.tail (.tail .head))))) | exact (.tail (.tail (.tail (.tail (.tail (.tail .head)))))) | exact (.tail (.tail (.tail (.tail (.tail (.tail (.tail .head))))))) | exact (.tail (.tail (.tail (.tail (.tail (.tail (.tail (.tail .head)))))))) | exact (.tail (.tail (.tail (.tail (.tail (.tail (.tail (.tail (.tail .head))))))))) | exact (.tail (.tail (.tail (.tail (.tail (.tail (.tail (.tail (.tail (.tail .head)))))))))) | exact (.tail (.tail (.tail (.tail (.tail (.tail (.tail (.tail (.tail (.tail (.tail .head))))))))))) | exact (.tail (.tail (.tail (.tail (.tail (.tail (.tail (.tail (.tail (.tail (.tail (.tail .head)))))))))))) | exact (.tail (.tail (.tail (.tail (.tail (.tail (.tail (.tail (.tail (.tail (.tail (.tail (.tail .head)))))))))))))) (by rfl)) ?_
  refine GL_nil ?_
  (repeat (first | (with_reducible refine R_seq ?_) | (with_reducible refine R_block_normal ?_)))
  (repeat (with_reducible refine G_seq ?_))
  refine G_region ?_
  refine GL_y rfl rfl (Y_move rfl) ?_
  refine GL_y rfl rfl (Y_slS (vl := some _) (vh := some _) (kl := 12) (kh := 16) sl25 rfl rfl rfl ⟨_, rfl⟩ ⟨_, rfl⟩ (by omega) (by omega) hc) ?_
  refine GL_call rfl rfl rfl rfl Try.call26 .nil (fun w hw => number_is (bs := (bs.drop 12).take 4) ((subB (lo := 12) hs hc 4).keep hw (by simp)) (by rw [List.length_take, List.length_drop]; omega) (by rw [List.length_take, List.length_drop]; omega)) ?_
  rintro _ _ ⟨rfl, rfl⟩
  rw [show numAt ((bs.drop 12).take 4) 0 = numAt bs 12 from numAt_take (l := bs) (p := 12) (n := 4) (i := 0) (by decide)]
  refine GL_y rfl rfl (Y_field fd24_2 rfl) ?_
  refine GL_s rfl (S_sc rfl sc3 rfl rfl (by first | exact .head | exact (.tail .head) | exact (.tail (.tail .head)) | exact (.tail (.tail (.tail .head))) | exact (.tail (.tail (.tail (.tail .head)))) | exact (.tail (.tail (.tail (.tail (.tail .head))))) | exact (.tail (.tail (.tail (.tail (.tail (.tail .head)))))) | exact (.tail (.tail (.tail (.tail (.tail (.tail (.tail .head))))))) | exact (.tail (.tail (.tail (.tail (.tail (.tail (.tail (.tail .head)))))))) | exact (.tail (.tail (.tail (.tail (.tail (.tail (.tail (.tail (.tail .head))))))))) | exact (.tail (.tail (.tail (.tail (.tail (.tail (.tail (.tail (.tail (.tail .head)))))))))) | exact (.tail (.tail (.tail (.tail (.tail (.tail (.tail (.tail (.tail (.tail (.tail .head))))))))))) | exact (.tail (.tail (.tail (.tail (.tail (.tail (.tail (.tail (.tail (.tail (.tail (.tail .head)))))))))))) | exact (.tail (.tail (.tail (.tail (.tail (.tail (.tail (.tail (.tail (.tail (.tail (.tail (.tail .head)))))))))))))) (by rfl)) ?_
  refine GL_nil ?_
  (repeat (first | (with_reducible refine R_seq ?_) | (with_reducible refine R_block_normal ?_)))
  (repeat (with_reducible refine G_seq ?_))
  refine G_region ?_
  refine GL_y rfl rfl (Y_move rfl) ?_
  refine GL_y rfl rfl (Y_slS (vl := some _) (vh := some _) (kl := 16) (kh := 20) sl25 rfl rfl rfl ⟨_, rfl⟩ ⟨_, rfl⟩ (by omega) (by omega) hc) ?_
  refine GL_call rfl rfl rfl rfl Try.call26 .nil (fun w hw => number_is (bs := (bs.drop 16).take 4) ((subB (lo := 16) hs hc 4).keep hw (by simp)) (by rw [List.length_take, List.length_drop]; omega) (by rw [List.length_take, List.length_drop]; omega)) ?_
  rintro _ _ ⟨rfl, rfl⟩
  rw [show numAt ((bs.drop 16).take 4) 0 = numAt bs 16 from numAt_take (l := bs) (p := 16) (n := 4) (i := 0) (by decide)]
  refine GL_y rfl rfl (Y_field fd24_3 rfl) ?_
  refine GL_s rfl (S_sc rfl sc3 rfl rfl (by first | exact .head | exact (.tail .head) | exact (.tail (.tail .head)) | exact (.tail (.tail (.tail .head))) | exact (.tail (.tail (.tail (.tail .head)))) | exact (.tail (.tail (.tail (.tail (.tail .head))))) | exact (.tail (.tail (.tail (.tail (.tail (.tail .head)))))) | exact (.tail (.tail (.tail (.tail (.tail (.tail (.tail .head))))))) | exact (.tail (.tail (.tail (.tail (.tail (.tail (.tail (.tail .head)))))))) | exact (.tail (.tail (.tail (.tail (.tail (.tail (.tail (.tail (.tail .head))))))))) | exact (.tail (.tail (.tail (.tail (.tail (.tail (.tail (.tail (.tail (.tail .head)))))))))) | exact (.tail (.tail (.tail (.tail (.tail (.tail (.tail (.tail (.tail (.tail (.tail .head))))))))))) | exact (.tail (.tail (.tail (.tail (.tail (.tail (.tail (.tail (.tail (.tail (.tail (.tail .head)))))))))))) | exact (.tail (.tail (.tail (.tail (.tail (.tail (.tail (.tail (.tail (.tail (.tail (.tail (.tail .head)))))))))))))) (by rfl)) ?_
  refine GL_nil ?_
  (repeat (first | (with_reducible refine R_seq ?_) | (with_reducible refine R_block_normal ?_)))
  (repeat (with_reducible refine G_seq ?_))
  refine G_region ?_
  refine GL_y rfl rfl (Y_move rfl) ?_
  refine GL_y rfl rfl (Y_slS (vl := some _) (vh := some _) (kl := 20) (kh := 24) sl25 rfl rfl rfl ⟨_, rfl⟩ ⟨_, rfl⟩ (by omega) (by omega) hc) ?_
  refine GL_call rfl rfl rfl rfl Try.call26 .nil (fun w hw => number_is (bs := (bs.drop 20).take 4) ((subB (lo := 20) hs hc 4).keep hw (by simp)) (by rw [List.length_take, List.length_drop]; omega) (by rw [List.length_take, List.length_drop]; omega)) ?_
  rintro _ _ ⟨rfl, rfl⟩
  rw [show numAt ((bs.drop 20).take 4) 0 = numAt bs 20 from numAt_take (l := bs) (p := 20) (n := 4) (i := 0) (by decide)]
  refine GL_y rfl rfl (Y_assign rfl) ?_
  refine GL_nil ?_
  (repeat (first | (with_reducible refine R_seq ?_) | (with_reducible refine R_block_normal ?_)))
  (repeat (with_reducible refine G_seq ?_))
  refine G_region ?_
  refine GL_y rfl rfl (Y_move rfl) ?_
  refine GL_y rfl rfl (Y_gtrN (b := 8) rfl rfl) ?_
  refine GL_y rfl rfl (Y_move rfl) ?_
  refine GL_bool 35 rfl (fun g35 => ?_) (fun g35 => ?_)
  · -- g35 True
    exact absurd g35 (by simp; omega)
  · -- g35 False
    refine GL_y rfl rfl (Y_move rfl) ?_
    refine GL_y rfl rfl (Y_len sl25 rfl) ?_
    refine GL_y rfl rfl (Y_move rfl) ?_
    refine GL_y rfl rfl (Y_mulN (a := 40) rfl rfl (by omega)) ?_
    refine GL_y rfl rfl (Y_addN (a := 24) rfl rfl (by omega)) ?_
    refine GL_y rfl rfl (Y_neqN rfl rfl) ?_
    refine GL_y rfl rfl (Y_pick rfl rfl rfl rfl) ?_
    refine GL_nil ?_
    (repeat (first | (with_reducible refine R_seq ?_) | (with_reducible refine R_block_normal ?_)))
    (repeat (with_reducible refine G_seq ?_))
    refine G_cond_f rfl (by simp; omega) ?_
    (repeat (with_reducible refine G_seq ?_))
    refine G_skip ?_
    (repeat (first | (with_reducible refine R_seq ?_) | (with_reducible refine R_block_normal ?_)))
    (repeat (with_reducible refine G_seq ?_))
    refine G_region ?_
    refine GL_y rfl rfl (Y_assign rfl) ?_
    refine GL_nil ?_
    (repeat (first | (with_reducible refine R_seq ?_) | (with_reducible refine R_block_normal ?_)))
    (repeat (with_reducible refine G_seq ?_))
    refine G_block ?_
    (repeat (with_reducible refine G_seq ?_))
    refine G_loop (ι := RI) (fun i => numAt bs 20 - i.j) (fun i => i.j ≤ numAt bs 20 ∧ OwnR segL 47 34 i.NS i.sa i.sc (segsAt bs i.j)) (fun i => [(0, .slice ao bs.length c), (2, .pointer (some ⟨b2, 0, none⟩)), (3, .bool false), (4, .pointer (some ⟨b4, 0, none⟩)), (5, .int .i64 (numAt bs 20 : Nat)), (6, .int .i64 (i.j : Int))]) (fun i => ⟨b4, 24, 5, [Value.int .i64 (numAt bs 4 : Nat), .int .i64 (numAt bs 8 : Nat), .int .i64 (numAt bs 12 : Nat), .int .i64 (numAt bs 16 : Nat), .slice i.sa i.j i.sc], (0, 0)⟩ :: ⟨b2, 24, 5, [.int .i64 0, .int .i64 0, .int .i64 0, .int .i64 0, .slice none 0 0], (0, 0)⟩ :: i.NS) ⟨0, [], none, 0⟩ ?_ (⟨by first | rfl | decide, by first | rfl | decide, by first | rfl | decide, by first | rfl | decide, by first | rfl | decide, by first | rfl | decide, trivial⟩) (by repeat (first | exact .nil | exact Pick.rfl' _ | exact Pick.skip (Pick.rfl' _) | exact Pick.skip (Pick.skip (Pick.rfl' _)) | (apply Pick.cons; focus (first | exact .head | exact (.tail .head) | exact (.tail (.tail .head)) | exact (.tail (.tail (.tail .head))) | exact (.tail (.tail (.tail (.tail .head)))) | exact (.tail (.tail (.tail (.tail (.tail .head))))) | exact (.tail (.tail (.tail (.tail (.tail (.tail .head)))))) | exact (.tail (.tail (.tail (.tail (.tail (.tail (.tail .head))))))) | exact (.tail (.tail (.tail (.tail (.tail (.tail (.tail (.tail .head)))))))) | exact (.tail (.tail (.tail (.tail (.tail (.tail (.tail (.tail (.tail .head))))))))) | exact (.tail (.tail (.tail (.tail (.tail (.tail (.tail (.tail (.tail (.tail .head)))))))))) | exact (.tail (.tail (.tail (.tail (.tail (.tail (.tail (.tail (.tail (.tail (.tail .head))))))))))) | exact (.tail (.tail (.tail (.tail (.tail (.tail (.tail (.tail (.tail (.tail (.tail (.tail .head)))))))))))) | exact (.tail (.tail (.tail (.tail (.tail (.tail (.tail (.tail (.tail (.tail (.tail (.tail (.tail .head))))))))))))))))) ?_
    · exact ⟨by simp, .inl ⟨rfl, rfl, rfl, rfl⟩⟩
    intro i ⟨hi, hO⟩
    (repeat (with_reducible refine G_seq ?_))
    refine G_region ?_
    refine GL_y rfl rfl (Y_move rfl) ?_
    refine GL_y rfl rfl (Y_move rfl) ?_
    refine GL_y rfl rfl (Y_lssN rfl rfl) ?_
    refine GL_nil ?_
    (repeat (first | (with_reducible refine R_seq ?_) | (with_reducible refine R_block_normal ?_)))
    (repeat (with_reducible refine G_seq ?_))
    refine G_cond_dec rfl (fun ht46 => ?_) (fun ht46 => ?_)
    · -- yes
      (repeat (with_reducible refine G_seq ?_))
      refine G_skip ?_
      (repeat (first | (with_reducible refine R_seq ?_) | (with_reducible refine R_block_normal ?_)))
      (repeat (with_reducible refine G_seq ?_))
      refine G_block ?_
      have hx := subB (lo := 24 + 40 * i.j) hs hc 40
      have hxc : ((bs.drop (24 + 40 * i.j)).take 40).length ≤ c - (24 + 40 * i.j) := by simp only [List.length_take, List.length_drop]; omega
      (repeat (with_reducible refine G_seq ?_))
      refine G_region ?_
      refine GL_y rfl rfl (Y_move rfl) ?_
      refine GL_y rfl rfl (Y_move rfl) ?_
      refine GL_y rfl rfl (Y_mulN (a := 40) rfl rfl (by omega)) ?_
      refine GL_y rfl rfl (Y_addN (a := 24) rfl rfl (by omega)) ?_
      refine GL_y rfl rfl (Y_move rfl) ?_
      refine GL_y rfl rfl (Y_mulN (a := 40) rfl rfl (by omega)) ?_
      refine GL_y rfl rfl (Y_addN (a := 64) rfl rfl (by omega)) ?_
      refine GL_y rfl rfl (Y_slS (vl := some _) (vh := some _) (kl := 24 + 40 * i.j) (kh := 64 + 40 * i.j) sl25 rfl rfl rfl ⟨_, rfl⟩ ⟨_, rfl⟩ (by omega) (by omega) hc) ?_
      refine GL_y rfl rfl (Y_assign rfl) ?_
      refine GL_nil ?_
      (repeat (first | (with_reducible refine R_seq ?_) | (with_reducible refine R_block_normal ?_)))
      (repeat (with_reducible refine G_seq ?_))
      refine G_draw [8] 9 rfl (by kernel_rfl) ?_
      refine GA_y 0 rfl (by kernel_rfl) (by kernel_rfl) (by kernel_rfl) (fun _ _ _ h => h) rfl rfl rfl (Y_move rfl) ?_
      refine GA_y 1 rfl (by kernel_rfl) (by kernel_rfl) (by kernel_rfl) (fun _ _ _ h => h) rfl rfl rfl (Y_slS (ao := (subA ao c (24 + 40 * i.j) 1)) (l := 64 + 40 * i.j - (24 + 40 * i.j)) (c := c - (24 + 40 * i.j)) (vl := some _) (vh := some _) (kl := 0) (kh := 4) sl25 rfl rfl rfl ⟨_, rfl⟩ ⟨_, rfl⟩ (by decide) (by omega) (by omega)) ?_
      refine GA_y 3 rfl (by kernel_rfl) (by kernel_rfl) (by kernel_rfl) (fun _ _ _ h => h) rfl rfl rfl (Y_move rfl) ?_
      refine GA_y 4 rfl (by kernel_rfl) (by kernel_rfl) (by kernel_rfl) (fun _ _ _ h => h) rfl rfl rfl (Y_slS (ao := (subA ao c (24 + 40 * i.j) 1)) (l := 64 + 40 * i.j - (24 + 40 * i.j)) (c := c - (24 + 40 * i.j)) (vl := some _) (vh := some _) (kl := 4) (kh := 8) sl25 rfl rfl rfl ⟨_, rfl⟩ ⟨_, rfl⟩ (by decide) (by omega) (by omega)) ?_
      refine GA_all [2, 7] (by kernel_rfl) rfl ⟨?_, ?_, trivial⟩
      · -- 2 comes up
        refine GO_call rfl rfl rfl rfl rfl rfl Try.call26 (fun w hw => number_is (bs := (((bs.drop (24 + 40 * i.j)).take 40).drop 0).take 4) ((subB (lo := 0) hx hxc 4).keep hw (by simp)) (by simp only [List.length_take, List.length_drop]; omega) (by simp only [List.length_take, List.length_drop]; omega)) ?_
        rintro _ _ ⟨rfl, rfl⟩
        rw [show numAt ((((bs.drop (24 + 40 * i.j)).take 40).drop 0).take 4) 0 = numAt (bs.drop (24 + 40 * i.j)) 0 from by rw [numAt_take (by decide)]; simp only [numAt]; rw [bAt_take (by decide), bAt_take (by decide), bAt_take (by decide), bAt_take (by decide)]]
        refine GA_all [5, 7] (by kernel_rfl) rfl ⟨?_, ?_, trivial⟩
        · -- 5 comes up
          refine GO_call rfl rfl rfl rfl rfl rfl Try.call26 (fun w hw => number_is (bs := (((bs.drop (24 + 40 * i.j)).take 40).drop 4).take 4) ((subB (lo := 4) hx hxc 4).keep hw (by simp)) (by simp only [List.length_take, List.length_drop]; omega) (by simp only [List.length_take, List.length_drop]; omega)) ?_
          rintro _ _ ⟨rfl, rfl⟩
          rw [show numAt ((((bs.drop (24 + 40 * i.j)).take 40).drop 4).take 4) 0 = numAt (bs.drop (24 + 40 * i.j)) 4 from by rw [numAt_take (by decide)]; simp only [numAt]; rw [bAt_take (by decide), bAt_take (by decide), bAt_take (by decide), bAt_take (by decide)]]
          refine GA_y 6 rfl (by kernel_rfl) (by kernel_rfl) (by kernel_rfl) (fun _ _ _ h => h) rfl rfl rfl (Y_build (v := .agg (segL (segP (bs.drop (24 + 40 * i.j)) 0)).toArray) (vs := [(0, .int .i64 (segP (bs.drop (24 + 40 * i.j)) 0).load), (1, .int .i64 (segP (bs.drop (24 + 40 * i.j)) 0).bytes)]) rfl (fun w => build47 _ w)) ?_
          refine GA_one 7 (by kernel_rfl) ?_
          refine GO_w rfl rfl rfl rfl (W_alloc zr47 fun b8 => ⟨⟨_, by repeat (first | exact .nil | exact Pick.rfl' _ | exact Pick.skip (Pick.rfl' _) | exact Pick.skip (Pick.skip (Pick.rfl' _)) | (apply Pick.cons; focus (first | exact .head | exact (.tail .head) | exact (.tail (.tail .head)) | exact (.tail (.tail (.tail .head))) | exact (.tail (.tail (.tail (.tail .head)))) | exact (.tail (.tail (.tail (.tail (.tail .head))))) | exact (.tail (.tail (.tail (.tail (.tail (.tail .head)))))) | exact (.tail (.tail (.tail (.tail (.tail (.tail (.tail .head))))))) | exact (.tail (.tail (.tail (.tail (.tail (.tail (.tail (.tail .head)))))))) | exact (.tail (.tail (.tail (.tail (.tail (.tail (.tail (.tail (.tail .head))))))))) | exact (.tail (.tail (.tail (.tail (.tail (.tail (.tail (.tail (.tail (.tail .head)))))))))) | exact (.tail (.tail (.tail (.tail (.tail (.tail (.tail (.tail (.tail (.tail (.tail .head))))))))))) | exact (.tail (.tail (.tail (.tail (.tail (.tail (.tail (.tail (.tail (.tail (.tail (.tail .head)))))))))))) | exact (.tail (.tail (.tail (.tail (.tail (.tail (.tail (.tail (.tail (.tail (.tail (.tail (.tail .head))))))))))))))))⟩, ?_⟩)
          refine GA_one 8 (by kernel_rfl) ?_
          refine GO_s rfl rfl rfl (S_all rfl rfl ag47 (segL_len _) (segL_all _) (by first | exact .head | exact (.tail .head) | exact (.tail (.tail .head)) | exact (.tail (.tail (.tail .head))) | exact (.tail (.tail (.tail (.tail .head)))) | exact (.tail (.tail (.tail (.tail (.tail .head))))) | exact (.tail (.tail (.tail (.tail (.tail (.tail .head)))))) | exact (.tail (.tail (.tail (.tail (.tail (.tail (.tail .head))))))) | exact (.tail (.tail (.tail (.tail (.tail (.tail (.tail (.tail .head)))))))) | exact (.tail (.tail (.tail (.tail (.tail (.tail (.tail (.tail (.tail .head))))))))) | exact (.tail (.tail (.tail (.tail (.tail (.tail (.tail (.tail (.tail (.tail .head)))))))))) | exact (.tail (.tail (.tail (.tail (.tail (.tail (.tail (.tail (.tail (.tail (.tail .head))))))))))) | exact (.tail (.tail (.tail (.tail (.tail (.tail (.tail (.tail (.tail (.tail (.tail (.tail .head)))))))))))) | exact (.tail (.tail (.tail (.tail (.tail (.tail (.tail (.tail (.tail (.tail (.tail (.tail (.tail .head)))))))))))))) (by rfl)) ?_
          refine GA_done (by kernel_rfl) ?_
          (repeat (first | (with_reducible refine R_seq ?_) | (with_reducible refine R_block_normal ?_)))
          (repeat (with_reducible refine G_seq ?_))
          refine G_region ?_
          refine GL_y rfl rfl (Y_assign rfl) ?_
          refine GL_nil ?_
          (repeat (first | (with_reducible refine R_seq ?_) | (with_reducible refine R_block_normal ?_)))
          (repeat (with_reducible refine G_seq ?_))
          refine G_block ?_
          (repeat (with_reducible refine G_seq ?_))
          refine G_loop (ι := Nat) (fun q => 32 - q) (fun q => q ≤ 32) (fun q => [(0, .slice ao bs.length c), (2, .pointer (some ⟨b2, 0, none⟩)), (3, .bool false), (4, .pointer (some ⟨b4, 0, none⟩)), (5, .int .i64 (numAt bs 20 : Nat)), (6, .int .i64 (i.j : Int)), (7, .slice (subA ao c (24 + 40 * i.j) 1) (64 + 40 * i.j - (24 + 40 * i.j)) (c - (24 + 40 * i.j))), (8, .pointer (some ⟨b8, 0, none⟩)), (9, .int .i64 (q : Int))]) (fun q => ⟨b8, 47, 34, segL (segP (bs.drop (24 + 40 * i.j)) q), (0, 0)⟩ :: ⟨b4, 24, 5, [Value.int .i64 (numAt bs 4 : Nat), .int .i64 (numAt bs 8 : Nat), .int .i64 (numAt bs 12 : Nat), .int .i64 (numAt bs 16 : Nat), .slice i.sa i.j i.sc], (0, 0)⟩ :: ⟨b2, 24, 5, [.int .i64 0, .int .i64 0, .int .i64 0, .int .i64 0, .slice none 0 0], (0, 0)⟩ :: i.NS) 0 ?_ (⟨by first | rfl | decide, by first | rfl | decide, by first | rfl | decide, by first | rfl | decide, by first | rfl | decide, by first | rfl | decide, by first | rfl | decide, by first | rfl | decide, by first | rfl | decide, trivial⟩) (by repeat (first | exact .nil | exact Pick.rfl' _ | exact Pick.skip (Pick.rfl' _) | exact Pick.skip (Pick.skip (Pick.rfl' _)) | (apply Pick.cons; focus (first | exact .head | exact (.tail .head) | exact (.tail (.tail .head)) | exact (.tail (.tail (.tail .head))) | exact (.tail (.tail (.tail (.tail .head)))) | exact (.tail (.tail (.tail (.tail (.tail .head))))) | exact (.tail (.tail (.tail (.tail (.tail (.tail .head)))))) | exact (.tail (.tail (.tail (.tail (.tail (.tail (.tail .head))))))) | exact (.tail (.tail (.tail (.tail (.tail (.tail (.tail (.tail .head)))))))) | exact (.tail (.tail (.tail (.tail (.tail (.tail (.tail (.tail (.tail .head))))))))) | exact (.tail (.tail (.tail (.tail (.tail (.tail (.tail (.tail (.tail (.tail .head)))))))))) | exact (.tail (.tail (.tail (.tail (.tail (.tail (.tail (.tail (.tail (.tail (.tail .head))))))))))) | exact (.tail (.tail (.tail (.tail (.tail (.tail (.tail (.tail (.tail (.tail (.tail (.tail .head)))))))))))) | exact (.tail (.tail (.tail (.tail (.tail (.tail (.tail (.tail (.tail (.tail (.tail (.tail (.tail .head))))))))))))))))) ?_
          · omega
          intro q hq
          (repeat (with_reducible refine G_seq ?_))
          refine G_region ?_
          refine GL_y rfl rfl (Y_move rfl) ?_
          refine GL_y rfl rfl (Y_lssN (b := 32) rfl rfl) ?_
          refine GL_nil ?_
          (repeat (first | (with_reducible refine R_seq ?_) | (with_reducible refine R_block_normal ?_)))
          (repeat (with_reducible refine G_seq ?_))
          refine G_cond_dec rfl (fun ht65 => ?_) (fun ht65 => ?_)
          · -- yes
            (repeat (with_reducible refine G_seq ?_))
            refine G_skip ?_
            (repeat (first | (with_reducible refine R_seq ?_) | (with_reducible refine R_block_normal ?_)))
            (repeat (with_reducible refine G_seq ?_))
            refine G_block ?_
            have hxq : ((bs.drop (24 + 40 * i.j)).take 40)[8 + q]? = some (bAt (bs.drop (24 + 40 * i.j)) (8 + q)) := by
              rw [List.getElem?_take, if_pos (by omega)]; exact bAt_some (by rw [List.length_drop]; omega)
            (repeat (with_reducible refine G_seq ?_))
            refine G_region ?_
            refine GL_y rfl rfl (Y_move rfl) ?_
            refine GL_y rfl rfl (Y_move rfl) ?_
            refine GL_y rfl rfl (Y_move rfl) ?_
            refine GL_y rfl rfl (Y_addN (a := 8) rfl rfl (by omega)) ?_
            refine GL_y rfl rfl (Y_bAt (j := 8 + q) (bs := (bs.drop (24 + 40 * i.j)).take 40) hx rfl rfl hxq (by simp only [List.length_take, List.length_drop]; omega)) ?_
            refine GL_y rfl rfl (Y_bGet hx (by simp) rfl hxq) ?_
            refine GL_y rfl rfl (Y_field fd47_2 rfl) ?_
            refine GL_y rfl rfl (Y_idxA1 ar45 rfl rfl (by first | omega | decide)) ?_
            refine GL_s rfl (S_sc rfl sc5 rfl rfl (by first | exact .head | exact (.tail .head) | exact (.tail (.tail .head)) | exact (.tail (.tail (.tail .head))) | exact (.tail (.tail (.tail (.tail .head)))) | exact (.tail (.tail (.tail (.tail (.tail .head))))) | exact (.tail (.tail (.tail (.tail (.tail (.tail .head)))))) | exact (.tail (.tail (.tail (.tail (.tail (.tail (.tail .head))))))) | exact (.tail (.tail (.tail (.tail (.tail (.tail (.tail (.tail .head)))))))) | exact (.tail (.tail (.tail (.tail (.tail (.tail (.tail (.tail (.tail .head))))))))) | exact (.tail (.tail (.tail (.tail (.tail (.tail (.tail (.tail (.tail (.tail .head)))))))))) | exact (.tail (.tail (.tail (.tail (.tail (.tail (.tail (.tail (.tail (.tail (.tail .head))))))))))) | exact (.tail (.tail (.tail (.tail (.tail (.tail (.tail (.tail (.tail (.tail (.tail (.tail .head)))))))))))) | exact (.tail (.tail (.tail (.tail (.tail (.tail (.tail (.tail (.tail (.tail (.tail (.tail (.tail .head)))))))))))))) (segP_set _ ht65)) ?_
            refine GL_nil ?_
            (repeat (first | (with_reducible refine R_seq ?_) | (with_reducible refine R_block_normal ?_)))
            (repeat (with_reducible refine G_seq ?_))
            refine G_region ?_
            refine GL_y rfl rfl (Y_move rfl) ?_
            refine GL_y rfl rfl (Y_addN (b := 1) rfl rfl (by first | omega | decide)) ?_
            refine GL_y rfl rfl (Y_assign rfl) ?_
            refine GL_nil ?_
            (repeat (first | (with_reducible refine R_seq ?_) | (with_reducible refine R_block_normal ?_)))
            (repeat (with_reducible refine R_block_normal ?_))
            refine R_fam (q + 1) ?_ (⟨by first | rfl | decide, by first | rfl | decide, by first | rfl | decide, by first | rfl | decide, by first | rfl | decide, by first | rfl | decide, by first | rfl | decide, by first | rfl | decide, by first | rfl | decide, trivial⟩) (by repeat (first | exact .nil | exact Pick.rfl' _ | exact Pick.skip (Pick.rfl' _) | exact Pick.skip (Pick.skip (Pick.rfl' _)) | (apply Pick.cons; focus (first | exact .head | exact (.tail .head) | exact (.tail (.tail .head)) | exact (.tail (.tail (.tail .head))) | exact (.tail (.tail (.tail (.tail .head)))) | exact (.tail (.tail (.tail (.tail (.tail .head))))) | exact (.tail (.tail (.tail (.tail (.tail (.tail .head)))))) | exact (.tail (.tail (.tail (.tail (.tail (.tail (.tail .head))))))) | exact (.tail (.tail (.tail (.tail (.tail (.tail (.tail (.tail .head)))))))) | exact (.tail (.tail (.tail (.tail (.tail (.tail (.tail (.tail (.tail .head))))))))) | exact (.tail (.tail (.tail (.tail (.tail (.tail (.tail (.tail (.tail (.tail .head)))))))))) | exact (.tail (.tail (.tail (.tail (.tail (.tail (.tail (.tail (.tail (.tail (.tail .head))))))))))) | exact (.tail (.tail (.tail (.tail (.tail (.tail (.tail (.tail (.tail (.tail (.tail (.tail .head)))))))))))) | exact (.tail (.tail (.tail (.tail (.tail (.tail (.tail (.tail (.tail (.tail (.tail (.tail (.tail .head)))))))))))))))))
            exact ⟨by omega, by omega⟩
          · -- no
            (repeat (with_reducible refine G_seq ?_))
            refine G_exit ?_
            (repeat (first | (with_reducible refine R_then_exit ?_) | (with_reducible refine R_block_exit ?_) | (with_reducible refine R_block_other (by decide) ?_)))
            (repeat (first | (with_reducible refine R_seq ?_) | (with_reducible refine R_block_normal ?_)))
            obtain rfl : q = 32 := by omega
            (repeat (with_reducible refine G_seq ?_))
            refine G_region ?_
            refine GL_y rfl rfl (Y_field fd24_4 rfl) ?_
            refine GL_y rfl rfl (Y_loadS rfl sc22 (by first | exact .head _ | exact .tail _ (.head _) | exact .tail _ (.tail _ (.head _)) | exact .tail _ (.tail _ (.tail _ (.head _))) | exact .tail _ (.tail _ (.tail _ (.tail _ (.head _)))) | exact .tail _ (.tail _ (.tail _ (.tail _ (.tail _ (.head _))))) | exact .tail _ (.tail _ (.tail _ (.tail _ (.tail _ (.tail _ (.head _)))))) | exact .tail _ (.tail _ (.tail _ (.tail _ (.tail _ (.tail _ (.tail _ (.head _))))))) | exact .tail _ (.tail _ (.tail _ (.tail _ (.tail _ (.tail _ (.tail _ (.tail _ (.head _)))))))) | exact .tail _ (.tail _ (.tail _ (.tail _ (.tail _ (.tail _ (.tail _ (.tail _ (.tail _ (.head _))))))))) | exact .tail _ (.tail _ (.tail _ (.tail _ (.tail _ (.tail _ (.tail _ (.tail _ (.tail _ (.tail _ (.head _)))))))))) | exact .tail _ (.tail _ (.tail _ (.tail _ (.tail _ (.tail _ (.tail _ (.tail _ (.tail _ (.tail _ (.tail _ (.head _))))))))))) | exact .tail _ (.tail _ (.tail _ (.tail _ (.tail _ (.tail _ (.tail _ (.tail _ (.tail _ (.tail _ (.tail _ (.tail _ (.head _)))))))))))) | exact .tail _ (.tail _ (.tail _ (.tail _ (.tail _ (.tail _ (.tail _ (.tail _ (.tail _ (.tail _ (.tail _ (.tail _ (.tail _ (.head _)))))))))))))) (by rfl)) ?_
            refine GL_y rfl rfl (Y_loadA (xs := segL (segP (bs.drop (24 + 40 * i.j)) 32)) rfl (by first | exact .head _ | exact .tail _ (.head _) | exact .tail _ (.tail _ (.head _)) | exact .tail _ (.tail _ (.tail _ (.head _))) | exact .tail _ (.tail _ (.tail _ (.tail _ (.head _)))) | exact .tail _ (.tail _ (.tail _ (.tail _ (.tail _ (.head _))))) | exact .tail _ (.tail _ (.tail _ (.tail _ (.tail _ (.tail _ (.head _)))))) | exact .tail _ (.tail _ (.tail _ (.tail _ (.tail _ (.tail _ (.tail _ (.head _))))))) | exact .tail _ (.tail _ (.tail _ (.tail _ (.tail _ (.tail _ (.tail _ (.tail _ (.head _)))))))) | exact .tail _ (.tail _ (.tail _ (.tail _ (.tail _ (.tail _ (.tail _ (.tail _ (.tail _ (.head _))))))))) | exact .tail _ (.tail _ (.tail _ (.tail _ (.tail _ (.tail _ (.tail _ (.tail _ (.tail _ (.tail _ (.head _)))))))))) | exact .tail _ (.tail _ (.tail _ (.tail _ (.tail _ (.tail _ (.tail _ (.tail _ (.tail _ (.tail _ (.tail _ (.head _))))))))))) | exact .tail _ (.tail _ (.tail _ (.tail _ (.tail _ (.tail _ (.tail _ (.tail _ (.tail _ (.tail _ (.tail _ (.tail _ (.head _)))))))))))) | exact .tail _ (.tail _ (.tail _ (.tail _ (.tail _ (.tail _ (.tail _ (.tail _ (.tail _ (.tail _ (.tail _ (.tail _ (.tail _ (.head _)))))))))))))) ag47 (segL_len _)) ?_
            refine GL_w rfl rfl (W_bs1 (xs := segL (segP (bs.drop (24 + 40 * i.j)) 32)) Try.underlying22 el47 rfl (segL_len _) (by decide) (by decide) fun b79 => ?_)
            refine GL_w rfl rfl (W_appRec (r := segsAt bs i.j) (a := segOf (bs.drop (24 + 40 * i.j))) segL_len segL_all (by decide) (by decide) Try.underlying22 el47 hO rfl (segsAt_len _ _).symm rfl (by rw [segsAt_len]; omega) (.skip (.skip (.skip (.skip (Pick.rfl' _))))) (by first | exact .head _ | exact .tail _ (.head _) | exact .tail _ (.tail _ (.head _)) | exact .tail _ (.tail _ (.tail _ (.head _))) | exact .tail _ (.tail _ (.tail _ (.tail _ (.head _)))) | exact .tail _ (.tail _ (.tail _ (.tail _ (.tail _ (.head _))))) | exact .tail _ (.tail _ (.tail _ (.tail _ (.tail _ (.tail _ (.head _)))))) | exact .tail _ (.tail _ (.tail _ (.tail _ (.tail _ (.tail _ (.tail _ (.head _))))))) | exact .tail _ (.tail _ (.tail _ (.tail _ (.tail _ (.tail _ (.tail _ (.tail _ (.head _)))))))) | exact .tail _ (.tail _ (.tail _ (.tail _ (.tail _ (.tail _ (.tail _ (.tail _ (.tail _ (.head _))))))))) | exact .tail _ (.tail _ (.tail _ (.tail _ (.tail _ (.tail _ (.tail _ (.tail _ (.tail _ (.tail _ (.head _)))))))))) | exact .tail _ (.tail _ (.tail _ (.tail _ (.tail _ (.tail _ (.tail _ (.tail _ (.tail _ (.tail _ (.tail _ (.head _))))))))))) | exact .tail _ (.tail _ (.tail _ (.tail _ (.tail _ (.tail _ (.tail _ (.tail _ (.tail _ (.tail _ (.tail _ (.tail _ (.head _)))))))))))) | exact .tail _ (.tail _ (.tail _ (.tail _ (.tail _ (.tail _ (.tail _ (.tail _ (.tail _ (.tail _ (.tail _ (.tail _ (.tail _ (.head _)))))))))))))) fun b80 c80 h80 => ?_)
            refine GL_y rfl rfl (Y_field fd24_4 rfl) ?_
            refine GL_s rfl (S_sc rfl sc22 rfl rfl (by first | exact .head | exact (.tail .head) | exact (.tail (.tail .head)) | exact (.tail (.tail (.tail .head))) | exact (.tail (.tail (.tail (.tail .head)))) | exact (.tail (.tail (.tail (.tail (.tail .head))))) | exact (.tail (.tail (.tail (.tail (.tail (.tail .head)))))) | exact (.tail (.tail (.tail (.tail (.tail (.tail (.tail .head))))))) | exact (.tail (.tail (.tail (.tail (.tail (.tail (.tail (.tail .head)))))))) | exact (.tail (.tail (.tail (.tail (.tail (.tail (.tail (.tail (.tail .head))))))))) | exact (.tail (.tail (.tail (.tail (.tail (.tail (.tail (.tail (.tail (.tail .head)))))))))) | exact (.tail (.tail (.tail (.tail (.tail (.tail (.tail (.tail (.tail (.tail (.tail .head))))))))))) | exact (.tail (.tail (.tail (.tail (.tail (.tail (.tail (.tail (.tail (.tail (.tail (.tail .head)))))))))))) | exact (.tail (.tail (.tail (.tail (.tail (.tail (.tail (.tail (.tail (.tail (.tail (.tail (.tail .head)))))))))))))) (by rfl)) ?_
            refine GL_nil ?_
            (repeat (first | (with_reducible refine R_seq ?_) | (with_reducible refine R_block_normal ?_)))
            (repeat (with_reducible refine G_seq ?_))
            refine G_region ?_
            refine GL_y rfl rfl (Y_move rfl) ?_
            refine GL_y rfl rfl (Y_addN (b := 1) rfl rfl (by first | omega | decide)) ?_
            refine GL_y rfl rfl (Y_assign rfl) ?_
            refine GL_nil ?_
            (repeat (first | (with_reducible refine R_seq ?_) | (with_reducible refine R_block_normal ?_)))
            (repeat (with_reducible refine R_block_normal ?_))
            rw [show segsAt bs i.j ++ [segOf (bs.drop (24 + 40 * i.j))] = segsAt bs (i.j + 1) from (segsAt_succ _ _).symm, segsAt_len]
            refine R_fam ⟨i.j + 1, [⟨b80, 47, c80 * 34, recL segL (segsAt bs (i.j + 1)), (0, 0)⟩], some ⟨b80, 0, none⟩, c80⟩ ?_ (⟨by first | rfl | decide, by first | rfl | decide, by first | rfl | decide, by first | rfl | decide, by first | rfl | decide, by first | rfl | decide, trivial⟩) (by repeat (first | exact .nil | exact Pick.rfl' _ | exact Pick.skip (Pick.rfl' _) | exact Pick.skip (Pick.skip (Pick.rfl' _)) | (apply Pick.cons; focus (first | exact .head | exact (.tail .head) | exact (.tail (.tail .head)) | exact (.tail (.tail (.tail .head))) | exact (.tail (.tail (.tail (.tail .head)))) | exact (.tail (.tail (.tail (.tail (.tail .head))))) | exact (.tail (.tail (.tail (.tail (.tail (.tail .head)))))) | exact (.tail (.tail (.tail (.tail (.tail (.tail (.tail .head))))))) | exact (.tail (.tail (.tail (.tail (.tail (.tail (.tail (.tail .head)))))))) | exact (.tail (.tail (.tail (.tail (.tail (.tail (.tail (.tail (.tail .head))))))))) | exact (.tail (.tail (.tail (.tail (.tail (.tail (.tail (.tail (.tail (.tail .head)))))))))) | exact (.tail (.tail (.tail (.tail (.tail (.tail (.tail (.tail (.tail (.tail (.tail .head))))))))))) | exact (.tail (.tail (.tail (.tail (.tail (.tail (.tail (.tail (.tail (.tail (.tail (.tail .head)))))))))))) | exact (.tail (.tail (.tail (.tail (.tail (.tail (.tail (.tail (.tail (.tail (.tail (.tail (.tail .head)))))))))))))))))
            exact ⟨⟨by simp only; omega, .inr ⟨b80, rfl, rfl⟩⟩, by simp only; omega⟩
        · -- 7 comes up
          refine GO_w rfl rfl rfl rfl (W_alloc zr47 fun b8 => ⟨⟨_, by repeat (first | exact .nil | exact Pick.rfl' _ | exact Pick.skip (Pick.rfl' _) | exact Pick.skip (Pick.skip (Pick.rfl' _)) | (apply Pick.cons; focus (first | exact .head | exact (.tail .head) | exact (.tail (.tail .head)) | exact (.tail (.tail (.tail .head))) | exact (.tail (.tail (.tail (.tail .head)))) | exact (.tail (.tail (.tail (.tail (.tail .head))))) | exact (.tail (.tail (.tail (.tail (.tail (.tail .head)))))) | exact (.tail (.tail (.tail (.tail (.tail (.tail (.tail .head))))))) | exact (.tail (.tail (.tail (.tail (.tail (.tail (.tail (.tail .head)))))))) | exact (.tail (.tail (.tail (.tail (.tail (.tail (.tail (.tail (.tail .head))))))))) | exact (.tail (.tail (.tail (.tail (.tail (.tail (.tail (.tail (.tail (.tail .head)))))))))) | exact (.tail (.tail (.tail (.tail (.tail (.tail (.tail (.tail (.tail (.tail (.tail .head))))))))))) | exact (.tail (.tail (.tail (.tail (.tail (.tail (.tail (.tail (.tail (.tail (.tail (.tail .head)))))))))))) | exact (.tail (.tail (.tail (.tail (.tail (.tail (.tail (.tail (.tail (.tail (.tail (.tail (.tail .head))))))))))))))))⟩, ?_⟩)
          refine GA_one 5 (by kernel_rfl) ?_
          refine GO_call rfl rfl rfl rfl rfl rfl Try.call26 (fun w hw => number_is (bs := (((bs.drop (24 + 40 * i.j)).take 40).drop 4).take 4) ((subB (lo := 4) hx hxc 4).keep hw (by simp)) (by simp only [List.length_take, List.length_drop]; omega) (by simp only [List.length_take, List.length_drop]; omega)) ?_
          rintro _ _ ⟨rfl, rfl⟩
          rw [show numAt ((((bs.drop (24 + 40 * i.j)).take 40).drop 4).take 4) 0 = numAt (bs.drop (24 + 40 * i.j)) 4 from by rw [numAt_take (by decide)]; simp only [numAt]; rw [bAt_take (by decide), bAt_take (by decide), bAt_take (by decide), bAt_take (by decide)]]
          refine GA_y 6 rfl (by kernel_rfl) (by kernel_rfl) (by kernel_rfl) (fun _ _ _ h => h) rfl rfl rfl (Y_build (v := .agg (segL (segP (bs.drop (24 + 40 * i.j)) 0)).toArray) (vs := [(0, .int .i64 (segP (bs.drop (24 + 40 * i.j)) 0).load), (1, .int .i64 (segP (bs.drop (24 + 40 * i.j)) 0).bytes)]) rfl (fun w => build47 _ w)) ?_
          refine GA_one 8 (by kernel_rfl) ?_
          refine GO_s rfl rfl rfl (S_all rfl rfl ag47 (segL_len _) (segL_all _) (by first | exact .head | exact (.tail .head) | exact (.tail (.tail .head)) | exact (.tail (.tail (.tail .head))) | exact (.tail (.tail (.tail (.tail .head)))) | exact (.tail (.tail (.tail (.tail (.tail .head))))) | exact (.tail (.tail (.tail (.tail (.tail (.tail .head)))))) | exact (.tail (.tail (.tail (.tail (.tail (.tail (.tail .head))))))) | exact (.tail (.tail (.tail (.tail (.tail (.tail (.tail (.tail .head)))))))) | exact (.tail (.tail (.tail (.tail (.tail (.tail (.tail (.tail (.tail .head))))))))) | exact (.tail (.tail (.tail (.tail (.tail (.tail (.tail (.tail (.tail (.tail .head)))))))))) | exact (.tail (.tail (.tail (.tail (.tail (.tail (.tail (.tail (.tail (.tail (.tail .head))))))))))) | exact (.tail (.tail (.tail (.tail (.tail (.tail (.tail (.tail (.tail (.tail (.tail (.tail .head)))))))))))) | exact (.tail (.tail (.tail (.tail (.tail (.tail (.tail (.tail (.tail (.tail (.tail (.tail (.tail .head)))))))))))))) (by rfl)) ?_
          refine GA_done (by kernel_rfl) ?_
          (repeat (first | (with_reducible refine R_seq ?_) | (with_reducible refine R_block_normal ?_)))
          (repeat (with_reducible refine G_seq ?_))
          refine G_region ?_
          refine GL_y rfl rfl (Y_assign rfl) ?_
          refine GL_nil ?_
          (repeat (first | (with_reducible refine R_seq ?_) | (with_reducible refine R_block_normal ?_)))
          (repeat (with_reducible refine G_seq ?_))
          refine G_block ?_
          (repeat (with_reducible refine G_seq ?_))
          refine G_loop (ι := Nat) (fun q => 32 - q) (fun q => q ≤ 32) (fun q => [(0, .slice ao bs.length c), (2, .pointer (some ⟨b2, 0, none⟩)), (3, .bool false), (4, .pointer (some ⟨b4, 0, none⟩)), (5, .int .i64 (numAt bs 20 : Nat)), (6, .int .i64 (i.j : Int)), (7, .slice (subA ao c (24 + 40 * i.j) 1) (64 + 40 * i.j - (24 + 40 * i.j)) (c - (24 + 40 * i.j))), (8, .pointer (some ⟨b8, 0, none⟩)), (9, .int .i64 (q : Int))]) (fun q => ⟨b8, 47, 34, segL (segP (bs.drop (24 + 40 * i.j)) q), (0, 0)⟩ :: ⟨b4, 24, 5, [Value.int .i64 (numAt bs 4 : Nat), .int .i64 (numAt bs 8 : Nat), .int .i64 (numAt bs 12 : Nat), .int .i64 (numAt bs 16 : Nat), .slice i.sa i.j i.sc], (0, 0)⟩ :: ⟨b2, 24, 5, [.int .i64 0, .int .i64 0, .int .i64 0, .int .i64 0, .slice none 0 0], (0, 0)⟩ :: i.NS) 0 ?_ (⟨by first | rfl | decide, by first | rfl | decide, by first | rfl | decide, by first | rfl | decide, by first | rfl | decide, by first | rfl | decide, by first | rfl | decide, by first | rfl | decide, by first | rfl | decide, trivial⟩) (by repeat (first | exact .nil | exact Pick.rfl' _ | exact Pick.skip (Pick.rfl' _) | exact Pick.skip (Pick.skip (Pick.rfl' _)) | (apply Pick.cons; focus (first | exact .head | exact (.tail .head) | exact (.tail (.tail .head)) | exact (.tail (.tail (.tail .head))) | exact (.tail (.tail (.tail (.tail .head)))) | exact (.tail (.tail (.tail (.tail (.tail .head))))) | exact (.tail (.tail (.tail (.tail (.tail (.tail .head)))))) | exact (.tail (.tail (.tail (.tail (.tail (.tail (.tail .head))))))) | exact (.tail (.tail (.tail (.tail (.tail (.tail (.tail (.tail .head)))))))) | exact (.tail (.tail (.tail (.tail (.tail (.tail (.tail (.tail (.tail .head))))))))) | exact (.tail (.tail (.tail (.tail (.tail (.tail (.tail (.tail (.tail (.tail .head)))))))))) | exact (.tail (.tail (.tail (.tail (.tail (.tail (.tail (.tail (.tail (.tail (.tail .head))))))))))) | exact (.tail (.tail (.tail (.tail (.tail (.tail (.tail (.tail (.tail (.tail (.tail (.tail .head)))))))))))) | exact (.tail (.tail (.tail (.tail (.tail (.tail (.tail (.tail (.tail (.tail (.tail (.tail (.tail .head))))))))))))))))) ?_
          · omega
          intro q hq
          (repeat (with_reducible refine G_seq ?_))
          refine G_region ?_
          refine GL_y rfl rfl (Y_move rfl) ?_
          refine GL_y rfl rfl (Y_lssN (b := 32) rfl rfl) ?_
          refine GL_nil ?_
          (repeat (first | (with_reducible refine R_seq ?_) | (with_reducible refine R_block_normal ?_)))
          (repeat (with_reducible refine G_seq ?_))
          refine G_cond_dec rfl (fun ht65 => ?_) (fun ht65 => ?_)
          · -- yes
            (repeat (with_reducible refine G_seq ?_))
            refine G_skip ?_
            (repeat (first | (with_reducible refine R_seq ?_) | (with_reducible refine R_block_normal ?_)))
            (repeat (with_reducible refine G_seq ?_))
            refine G_block ?_
            have hxq : ((bs.drop (24 + 40 * i.j)).take 40)[8 + q]? = some (bAt (bs.drop (24 + 40 * i.j)) (8 + q)) := by
              rw [List.getElem?_take, if_pos (by omega)]; exact bAt_some (by rw [List.length_drop]; omega)
            (repeat (with_reducible refine G_seq ?_))
            refine G_region ?_
            refine GL_y rfl rfl (Y_move rfl) ?_
            refine GL_y rfl rfl (Y_move rfl) ?_
            refine GL_y rfl rfl (Y_move rfl) ?_
            refine GL_y rfl rfl (Y_addN (a := 8) rfl rfl (by omega)) ?_
            refine GL_y rfl rfl (Y_bAt (j := 8 + q) (bs := (bs.drop (24 + 40 * i.j)).take 40) hx rfl rfl hxq (by simp only [List.length_take, List.length_drop]; omega)) ?_
            refine GL_y rfl rfl (Y_bGet hx (by simp) rfl hxq) ?_
            refine GL_y rfl rfl (Y_field fd47_2 rfl) ?_
            refine GL_y rfl rfl (Y_idxA1 ar45 rfl rfl (by first | omega | decide)) ?_
            refine GL_s rfl (S_sc rfl sc5 rfl rfl (by first | exact .head | exact (.tail .head) | exact (.tail (.tail .head)) | exact (.tail (.tail (.tail .head))) | exact (.tail (.tail (.tail (.tail .head)))) | exact (.tail (.tail (.tail (.tail (.tail .head))))) | exact (.tail (.tail (.tail (.tail (.tail (.tail .head)))))) | exact (.tail (.tail (.tail (.tail (.tail (.tail (.tail .head))))))) | exact (.tail (.tail (.tail (.tail (.tail (.tail (.tail (.tail .head)))))))) | exact (.tail (.tail (.tail (.tail (.tail (.tail (.tail (.tail (.tail .head))))))))) | exact (.tail (.tail (.tail (.tail (.tail (.tail (.tail (.tail (.tail (.tail .head)))))))))) | exact (.tail (.tail (.tail (.tail (.tail (.tail (.tail (.tail (.tail (.tail (.tail .head))))))))))) | exact (.tail (.tail (.tail (.tail (.tail (.tail (.tail (.tail (.tail (.tail (.tail (.tail .head)))))))))))) | exact (.tail (.tail (.tail (.tail (.tail (.tail (.tail (.tail (.tail (.tail (.tail (.tail (.tail .head)))))))))))))) (segP_set _ ht65)) ?_
            refine GL_nil ?_
            (repeat (first | (with_reducible refine R_seq ?_) | (with_reducible refine R_block_normal ?_)))
            (repeat (with_reducible refine G_seq ?_))
            refine G_region ?_
            refine GL_y rfl rfl (Y_move rfl) ?_
            refine GL_y rfl rfl (Y_addN (b := 1) rfl rfl (by first | omega | decide)) ?_
            refine GL_y rfl rfl (Y_assign rfl) ?_
            refine GL_nil ?_
            (repeat (first | (with_reducible refine R_seq ?_) | (with_reducible refine R_block_normal ?_)))
            (repeat (with_reducible refine R_block_normal ?_))
            refine R_fam (q + 1) ?_ (⟨by first | rfl | decide, by first | rfl | decide, by first | rfl | decide, by first | rfl | decide, by first | rfl | decide, by first | rfl | decide, by first | rfl | decide, by first | rfl | decide, by first | rfl | decide, trivial⟩) (by repeat (first | exact .nil | exact Pick.rfl' _ | exact Pick.skip (Pick.rfl' _) | exact Pick.skip (Pick.skip (Pick.rfl' _)) | (apply Pick.cons; focus (first | exact .head | exact (.tail .head) | exact (.tail (.tail .head)) | exact (.tail (.tail (.tail .head))) | exact (.tail (.tail (.tail (.tail .head)))) | exact (.tail (.tail (.tail (.tail (.tail .head))))) | exact (.tail (.tail (.tail (.tail (.tail (.tail .head)))))) | exact (.tail (.tail (.tail (.tail (.tail (.tail (.tail .head))))))) | exact (.tail (.tail (.tail (.tail (.tail (.tail (.tail (.tail .head)))))))) | exact (.tail (.tail (.tail (.tail (.tail (.tail (.tail (.tail (.tail .head))))))))) | exact (.tail (.tail (.tail (.tail (.tail (.tail (.tail (.tail (.tail (.tail .head)))))))))) | exact (.tail (.tail (.tail (.tail (.tail (.tail (.tail (.tail (.tail (.tail (.tail .head))))))))))) | exact (.tail (.tail (.tail (.tail (.tail (.tail (.tail (.tail (.tail (.tail (.tail (.tail .head)))))))))))) | exact (.tail (.tail (.tail (.tail (.tail (.tail (.tail (.tail (.tail (.tail (.tail (.tail (.tail .head)))))))))))))))))
            exact ⟨by omega, by omega⟩
          · -- no
            (repeat (with_reducible refine G_seq ?_))
            refine G_exit ?_
            (repeat (first | (with_reducible refine R_then_exit ?_) | (with_reducible refine R_block_exit ?_) | (with_reducible refine R_block_other (by decide) ?_)))
            (repeat (first | (with_reducible refine R_seq ?_) | (with_reducible refine R_block_normal ?_)))
            obtain rfl : q = 32 := by omega
            (repeat (with_reducible refine G_seq ?_))
            refine G_region ?_
            refine GL_y rfl rfl (Y_field fd24_4 rfl) ?_
            refine GL_y rfl rfl (Y_loadS rfl sc22 (by first | exact .head _ | exact .tail _ (.head _) | exact .tail _ (.tail _ (.head _)) | exact .tail _ (.tail _ (.tail _ (.head _))) | exact .tail _ (.tail _ (.tail _ (.tail _ (.head _)))) | exact .tail _ (.tail _ (.tail _ (.tail _ (.tail _ (.head _))))) | exact .tail _ (.tail _ (.tail _ (.tail _ (.tail _ (.tail _ (.head _)))))) | exact .tail _ (.tail _ (.tail _ (.tail _ (.tail _ (.tail _ (.tail _ (.head _))))))) | exact .tail _ (.tail _ (.tail _ (.tail _ (.tail _ (.tail _ (.tail _ (.tail _ (.head _)))))))) | exact .tail _ (.tail _ (.tail _ (.tail _ (.tail _ (.tail _ (.tail _ (.tail _ (.tail _ (.head _))))))))) | exact .tail _ (.tail _ (.tail _ (.tail _ (.tail _ (.tail _ (.tail _ (.tail _ (.tail _ (.tail _ (.head _)))))))))) | exact .tail _ (.tail _ (.tail _ (.tail _ (.tail _ (.tail _ (.tail _ (.tail _ (.tail _ (.tail _ (.tail _ (.head _))))))))))) | exact .tail _ (.tail _ (.tail _ (.tail _ (.tail _ (.tail _ (.tail _ (.tail _ (.tail _ (.tail _ (.tail _ (.tail _ (.head _)))))))))))) | exact .tail _ (.tail _ (.tail _ (.tail _ (.tail _ (.tail _ (.tail _ (.tail _ (.tail _ (.tail _ (.tail _ (.tail _ (.tail _ (.head _)))))))))))))) (by rfl)) ?_
            refine GL_y rfl rfl (Y_loadA (xs := segL (segP (bs.drop (24 + 40 * i.j)) 32)) rfl (by first | exact .head _ | exact .tail _ (.head _) | exact .tail _ (.tail _ (.head _)) | exact .tail _ (.tail _ (.tail _ (.head _))) | exact .tail _ (.tail _ (.tail _ (.tail _ (.head _)))) | exact .tail _ (.tail _ (.tail _ (.tail _ (.tail _ (.head _))))) | exact .tail _ (.tail _ (.tail _ (.tail _ (.tail _ (.tail _ (.head _)))))) | exact .tail _ (.tail _ (.tail _ (.tail _ (.tail _ (.tail _ (.tail _ (.head _))))))) | exact .tail _ (.tail _ (.tail _ (.tail _ (.tail _ (.tail _ (.tail _ (.tail _ (.head _)))))))) | exact .tail _ (.tail _ (.tail _ (.tail _ (.tail _ (.tail _ (.tail _ (.tail _ (.tail _ (.head _))))))))) | exact .tail _ (.tail _ (.tail _ (.tail _ (.tail _ (.tail _ (.tail _ (.tail _ (.tail _ (.tail _ (.head _)))))))))) | exact .tail _ (.tail _ (.tail _ (.tail _ (.tail _ (.tail _ (.tail _ (.tail _ (.tail _ (.tail _ (.tail _ (.head _))))))))))) | exact .tail _ (.tail _ (.tail _ (.tail _ (.tail _ (.tail _ (.tail _ (.tail _ (.tail _ (.tail _ (.tail _ (.tail _ (.head _)))))))))))) | exact .tail _ (.tail _ (.tail _ (.tail _ (.tail _ (.tail _ (.tail _ (.tail _ (.tail _ (.tail _ (.tail _ (.tail _ (.tail _ (.head _)))))))))))))) ag47 (segL_len _)) ?_
            refine GL_w rfl rfl (W_bs1 (xs := segL (segP (bs.drop (24 + 40 * i.j)) 32)) Try.underlying22 el47 rfl (segL_len _) (by decide) (by decide) fun b79 => ?_)
            refine GL_w rfl rfl (W_appRec (r := segsAt bs i.j) (a := segOf (bs.drop (24 + 40 * i.j))) segL_len segL_all (by decide) (by decide) Try.underlying22 el47 hO rfl (segsAt_len _ _).symm rfl (by rw [segsAt_len]; omega) (.skip (.skip (.skip (.skip (Pick.rfl' _))))) (by first | exact .head _ | exact .tail _ (.head _) | exact .tail _ (.tail _ (.head _)) | exact .tail _ (.tail _ (.tail _ (.head _))) | exact .tail _ (.tail _ (.tail _ (.tail _ (.head _)))) | exact .tail _ (.tail _ (.tail _ (.tail _ (.tail _ (.head _))))) | exact .tail _ (.tail _ (.tail _ (.tail _ (.tail _ (.tail _ (.head _)))))) | exact .tail _ (.tail _ (.tail _ (.tail _ (.tail _ (.tail _ (.tail _ (.head _))))))) | exact .tail _ (.tail _ (.tail _ (.tail _ (.tail _ (.tail _ (.tail _ (.tail _ (.head _)))))))) | exact .tail _ (.tail _ (.tail _ (.tail _ (.tail _ (.tail _ (.tail _ (.tail _ (.tail _ (.head _))))))))) | exact .tail _ (.tail _ (.tail _ (.tail _ (.tail _ (.tail _ (.tail _ (.tail _ (.tail _ (.tail _ (.head _)))))))))) | exact .tail _ (.tail _ (.tail _ (.tail _ (.tail _ (.tail _ (.tail _ (.tail _ (.tail _ (.tail _ (.tail _ (.head _))))))))))) | exact .tail _ (.tail _ (.tail _ (.tail _ (.tail _ (.tail _ (.tail _ (.tail _ (.tail _ (.tail _ (.tail _ (.tail _ (.head _)))))))))))) | exact .tail _ (.tail _ (.tail _ (.tail _ (.tail _ (.tail _ (.tail _ (.tail _ (.tail _ (.tail _ (.tail _ (.tail _ (.tail _ (.head _)))))))))))))) fun b80 c80 h80 => ?_)
            refine GL_y rfl rfl (Y_field fd24_4 rfl) ?_
            refine GL_s rfl (S_sc rfl sc22 rfl rfl (by first | exact .head | exact (.tail .head) | exact (.tail (.tail .head)) | exact (.tail (.tail (.tail .head))) | exact (.tail (.tail (.tail (.tail .head)))) | exact (.tail (.tail (.tail (.tail (.tail .head))))) | exact (.tail (.tail (.tail (.tail (.tail (.tail .head)))))) | exact (.tail (.tail (.tail (.tail (.tail (.tail (.tail .head))))))) | exact (.tail (.tail (.tail (.tail (.tail (.tail (.tail (.tail .head)))))))) | exact (.tail (.tail (.tail (.tail (.tail (.tail (.tail (.tail (.tail .head))))))))) | exact (.tail (.tail (.tail (.tail (.tail (.tail (.tail (.tail (.tail (.tail .head)))))))))) | exact (.tail (.tail (.tail (.tail (.tail (.tail (.tail (.tail (.tail (.tail (.tail .head))))))))))) | exact (.tail (.tail (.tail (.tail (.tail (.tail (.tail (.tail (.tail (.tail (.tail (.tail .head)))))))))))) | exact (.tail (.tail (.tail (.tail (.tail (.tail (.tail (.tail (.tail (.tail (.tail (.tail (.tail .head)))))))))))))) (by rfl)) ?_
            refine GL_nil ?_
            (repeat (first | (with_reducible refine R_seq ?_) | (with_reducible refine R_block_normal ?_)))
            (repeat (with_reducible refine G_seq ?_))
            refine G_region ?_
            refine GL_y rfl rfl (Y_move rfl) ?_
            refine GL_y rfl rfl (Y_addN (b := 1) rfl rfl (by first | omega | decide)) ?_
            refine GL_y rfl rfl (Y_assign rfl) ?_
            refine GL_nil ?_
            (repeat (first | (with_reducible refine R_seq ?_) | (with_reducible refine R_block_normal ?_)))
            (repeat (with_reducible refine R_block_normal ?_))
            rw [show segsAt bs i.j ++ [segOf (bs.drop (24 + 40 * i.j))] = segsAt bs (i.j + 1) from (segsAt_succ _ _).symm, segsAt_len]
            refine R_fam ⟨i.j + 1, [⟨b80, 47, c80 * 34, recL segL (segsAt bs (i.j + 1)), (0, 0)⟩], some ⟨b80, 0, none⟩, c80⟩ ?_ (⟨by first | rfl | decide, by first | rfl | decide, by first | rfl | decide, by first | rfl | decide, by first | rfl | decide, by first | rfl | decide, trivial⟩) (by repeat (first | exact .nil | exact Pick.rfl' _ | exact Pick.skip (Pick.rfl' _) | exact Pick.skip (Pick.skip (Pick.rfl' _)) | (apply Pick.cons; focus (first | exact .head | exact (.tail .head) | exact (.tail (.tail .head)) | exact (.tail (.tail (.tail .head))) | exact (.tail (.tail (.tail (.tail .head)))) | exact (.tail (.tail (.tail (.tail (.tail .head))))) | exact (.tail (.tail (.tail (.tail (.tail (.tail .head)))))) | exact (.tail (.tail (.tail (.tail (.tail (.tail (.tail .head))))))) | exact (.tail (.tail (.tail (.tail (.tail (.tail (.tail (.tail .head)))))))) | exact (.tail (.tail (.tail (.tail (.tail (.tail (.tail (.tail (.tail .head))))))))) | exact (.tail (.tail (.tail (.tail (.tail (.tail (.tail (.tail (.tail (.tail .head)))))))))) | exact (.tail (.tail (.tail (.tail (.tail (.tail (.tail (.tail (.tail (.tail (.tail .head))))))))))) | exact (.tail (.tail (.tail (.tail (.tail (.tail (.tail (.tail (.tail (.tail (.tail (.tail .head)))))))))))) | exact (.tail (.tail (.tail (.tail (.tail (.tail (.tail (.tail (.tail (.tail (.tail (.tail (.tail .head)))))))))))))))))
            exact ⟨⟨by simp only; omega, .inr ⟨b80, rfl, rfl⟩⟩, by simp only; omega⟩
      · -- 7 comes up
        refine GO_w rfl rfl rfl rfl (W_alloc zr47 fun b8 => ⟨⟨_, by repeat (first | exact .nil | exact Pick.rfl' _ | exact Pick.skip (Pick.rfl' _) | exact Pick.skip (Pick.skip (Pick.rfl' _)) | (apply Pick.cons; focus (first | exact .head | exact (.tail .head) | exact (.tail (.tail .head)) | exact (.tail (.tail (.tail .head))) | exact (.tail (.tail (.tail (.tail .head)))) | exact (.tail (.tail (.tail (.tail (.tail .head))))) | exact (.tail (.tail (.tail (.tail (.tail (.tail .head)))))) | exact (.tail (.tail (.tail (.tail (.tail (.tail (.tail .head))))))) | exact (.tail (.tail (.tail (.tail (.tail (.tail (.tail (.tail .head)))))))) | exact (.tail (.tail (.tail (.tail (.tail (.tail (.tail (.tail (.tail .head))))))))) | exact (.tail (.tail (.tail (.tail (.tail (.tail (.tail (.tail (.tail (.tail .head)))))))))) | exact (.tail (.tail (.tail (.tail (.tail (.tail (.tail (.tail (.tail (.tail (.tail .head))))))))))) | exact (.tail (.tail (.tail (.tail (.tail (.tail (.tail (.tail (.tail (.tail (.tail (.tail .head)))))))))))) | exact (.tail (.tail (.tail (.tail (.tail (.tail (.tail (.tail (.tail (.tail (.tail (.tail (.tail .head))))))))))))))))⟩, ?_⟩)
        refine GA_one 2 (by kernel_rfl) ?_
        refine GO_call rfl rfl rfl rfl rfl rfl Try.call26 (fun w hw => number_is (bs := (((bs.drop (24 + 40 * i.j)).take 40).drop 0).take 4) ((subB (lo := 0) hx hxc 4).keep hw (by simp)) (by simp only [List.length_take, List.length_drop]; omega) (by simp only [List.length_take, List.length_drop]; omega)) ?_
        rintro _ _ ⟨rfl, rfl⟩
        rw [show numAt ((((bs.drop (24 + 40 * i.j)).take 40).drop 0).take 4) 0 = numAt (bs.drop (24 + 40 * i.j)) 0 from by rw [numAt_take (by decide)]; simp only [numAt]; rw [bAt_take (by decide), bAt_take (by decide), bAt_take (by decide), bAt_take (by decide)]]
        refine GA_one 5 (by kernel_rfl) ?_
        refine GO_call rfl rfl rfl rfl rfl rfl Try.call26 (fun w hw => number_is (bs := (((bs.drop (24 + 40 * i.j)).take 40).drop 4).take 4) ((subB (lo := 4) hx hxc 4).keep hw (by simp)) (by simp only [List.length_take, List.length_drop]; omega) (by simp only [List.length_take, List.length_drop]; omega)) ?_
        rintro _ _ ⟨rfl, rfl⟩
        rw [show numAt ((((bs.drop (24 + 40 * i.j)).take 40).drop 4).take 4) 0 = numAt (bs.drop (24 + 40 * i.j)) 4 from by rw [numAt_take (by decide)]; simp only [numAt]; rw [bAt_take (by decide), bAt_take (by decide), bAt_take (by decide), bAt_take (by decide)]]
        refine GA_y 6 rfl (by kernel_rfl) (by kernel_rfl) (by kernel_rfl) (fun _ _ _ h => h) rfl rfl rfl (Y_build (v := .agg (segL (segP (bs.drop (24 + 40 * i.j)) 0)).toArray) (vs := [(0, .int .i64 (segP (bs.drop (24 + 40 * i.j)) 0).load), (1, .int .i64 (segP (bs.drop (24 + 40 * i.j)) 0).bytes)]) rfl (fun w => build47 _ w)) ?_
        refine GA_one 8 (by kernel_rfl) ?_
        refine GO_s rfl rfl rfl (S_all rfl rfl ag47 (segL_len _) (segL_all _) (by first | exact .head | exact (.tail .head) | exact (.tail (.tail .head)) | exact (.tail (.tail (.tail .head))) | exact (.tail (.tail (.tail (.tail .head)))) | exact (.tail (.tail (.tail (.tail (.tail .head))))) | exact (.tail (.tail (.tail (.tail (.tail (.tail .head)))))) | exact (.tail (.tail (.tail (.tail (.tail (.tail (.tail .head))))))) | exact (.tail (.tail (.tail (.tail (.tail (.tail (.tail (.tail .head)))))))) | exact (.tail (.tail (.tail (.tail (.tail (.tail (.tail (.tail (.tail .head))))))))) | exact (.tail (.tail (.tail (.tail (.tail (.tail (.tail (.tail (.tail (.tail .head)))))))))) | exact (.tail (.tail (.tail (.tail (.tail (.tail (.tail (.tail (.tail (.tail (.tail .head))))))))))) | exact (.tail (.tail (.tail (.tail (.tail (.tail (.tail (.tail (.tail (.tail (.tail (.tail .head)))))))))))) | exact (.tail (.tail (.tail (.tail (.tail (.tail (.tail (.tail (.tail (.tail (.tail (.tail (.tail .head)))))))))))))) (by rfl)) ?_
        refine GA_done (by kernel_rfl) ?_
        (repeat (first | (with_reducible refine R_seq ?_) | (with_reducible refine R_block_normal ?_)))
        (repeat (with_reducible refine G_seq ?_))
        refine G_region ?_
        refine GL_y rfl rfl (Y_assign rfl) ?_
        refine GL_nil ?_
        (repeat (first | (with_reducible refine R_seq ?_) | (with_reducible refine R_block_normal ?_)))
        (repeat (with_reducible refine G_seq ?_))
        refine G_block ?_
        (repeat (with_reducible refine G_seq ?_))
        refine G_loop (ι := Nat) (fun q => 32 - q) (fun q => q ≤ 32) (fun q => [(0, .slice ao bs.length c), (2, .pointer (some ⟨b2, 0, none⟩)), (3, .bool false), (4, .pointer (some ⟨b4, 0, none⟩)), (5, .int .i64 (numAt bs 20 : Nat)), (6, .int .i64 (i.j : Int)), (7, .slice (subA ao c (24 + 40 * i.j) 1) (64 + 40 * i.j - (24 + 40 * i.j)) (c - (24 + 40 * i.j))), (8, .pointer (some ⟨b8, 0, none⟩)), (9, .int .i64 (q : Int))]) (fun q => ⟨b8, 47, 34, segL (segP (bs.drop (24 + 40 * i.j)) q), (0, 0)⟩ :: ⟨b4, 24, 5, [Value.int .i64 (numAt bs 4 : Nat), .int .i64 (numAt bs 8 : Nat), .int .i64 (numAt bs 12 : Nat), .int .i64 (numAt bs 16 : Nat), .slice i.sa i.j i.sc], (0, 0)⟩ :: ⟨b2, 24, 5, [.int .i64 0, .int .i64 0, .int .i64 0, .int .i64 0, .slice none 0 0], (0, 0)⟩ :: i.NS) 0 ?_ (⟨by first | rfl | decide, by first | rfl | decide, by first | rfl | decide, by first | rfl | decide, by first | rfl | decide, by first | rfl | decide, by first | rfl | decide, by first | rfl | decide, by first | rfl | decide, trivial⟩) (by repeat (first | exact .nil | exact Pick.rfl' _ | exact Pick.skip (Pick.rfl' _) | exact Pick.skip (Pick.skip (Pick.rfl' _)) | (apply Pick.cons; focus (first | exact .head | exact (.tail .head) | exact (.tail (.tail .head)) | exact (.tail (.tail (.tail .head))) | exact (.tail (.tail (.tail (.tail .head)))) | exact (.tail (.tail (.tail (.tail (.tail .head))))) | exact (.tail (.tail (.tail (.tail (.tail (.tail .head)))))) | exact (.tail (.tail (.tail (.tail (.tail (.tail (.tail .head))))))) | exact (.tail (.tail (.tail (.tail (.tail (.tail (.tail (.tail .head)))))))) | exact (.tail (.tail (.tail (.tail (.tail (.tail (.tail (.tail (.tail .head))))))))) | exact (.tail (.tail (.tail (.tail (.tail (.tail (.tail (.tail (.tail (.tail .head)))))))))) | exact (.tail (.tail (.tail (.tail (.tail (.tail (.tail (.tail (.tail (.tail (.tail .head))))))))))) | exact (.tail (.tail (.tail (.tail (.tail (.tail (.tail (.tail (.tail (.tail (.tail (.tail .head)))))))))))) | exact (.tail (.tail (.tail (.tail (.tail (.tail (.tail (.tail (.tail (.tail (.tail (.tail (.tail .head))))))))))))))))) ?_
        · omega
        intro q hq
        (repeat (with_reducible refine G_seq ?_))
        refine G_region ?_
        refine GL_y rfl rfl (Y_move rfl) ?_
        refine GL_y rfl rfl (Y_lssN (b := 32) rfl rfl) ?_
        refine GL_nil ?_
        (repeat (first | (with_reducible refine R_seq ?_) | (with_reducible refine R_block_normal ?_)))
        (repeat (with_reducible refine G_seq ?_))
        refine G_cond_dec rfl (fun ht65 => ?_) (fun ht65 => ?_)
        · -- yes
          (repeat (with_reducible refine G_seq ?_))
          refine G_skip ?_
          (repeat (first | (with_reducible refine R_seq ?_) | (with_reducible refine R_block_normal ?_)))
          (repeat (with_reducible refine G_seq ?_))
          refine G_block ?_
          have hxq : ((bs.drop (24 + 40 * i.j)).take 40)[8 + q]? = some (bAt (bs.drop (24 + 40 * i.j)) (8 + q)) := by
            rw [List.getElem?_take, if_pos (by omega)]; exact bAt_some (by rw [List.length_drop]; omega)
          (repeat (with_reducible refine G_seq ?_))
          refine G_region ?_
          refine GL_y rfl rfl (Y_move rfl) ?_
          refine GL_y rfl rfl (Y_move rfl) ?_
          refine GL_y rfl rfl (Y_move rfl) ?_
          refine GL_y rfl rfl (Y_addN (a := 8) rfl rfl (by omega)) ?_
          refine GL_y rfl rfl (Y_bAt (j := 8 + q) (bs := (bs.drop (24 + 40 * i.j)).take 40) hx rfl rfl hxq (by simp only [List.length_take, List.length_drop]; omega)) ?_
          refine GL_y rfl rfl (Y_bGet hx (by simp) rfl hxq) ?_
          refine GL_y rfl rfl (Y_field fd47_2 rfl) ?_
          refine GL_y rfl rfl (Y_idxA1 ar45 rfl rfl (by first | omega | decide)) ?_
          refine GL_s rfl (S_sc rfl sc5 rfl rfl (by first | exact .head | exact (.tail .head) | exact (.tail (.tail .head)) | exact (.tail (.tail (.tail .head))) | exact (.tail (.tail (.tail (.tail .head)))) | exact (.tail (.tail (.tail (.tail (.tail .head))))) | exact (.tail (.tail (.tail (.tail (.tail (.tail .head)))))) | exact (.tail (.tail (.tail (.tail (.tail (.tail (.tail .head))))))) | exact (.tail (.tail (.tail (.tail (.tail (.tail (.tail (.tail .head)))))))) | exact (.tail (.tail (.tail (.tail (.tail (.tail (.tail (.tail (.tail .head))))))))) | exact (.tail (.tail (.tail (.tail (.tail (.tail (.tail (.tail (.tail (.tail .head)))))))))) | exact (.tail (.tail (.tail (.tail (.tail (.tail (.tail (.tail (.tail (.tail (.tail .head))))))))))) | exact (.tail (.tail (.tail (.tail (.tail (.tail (.tail (.tail (.tail (.tail (.tail (.tail .head)))))))))))) | exact (.tail (.tail (.tail (.tail (.tail (.tail (.tail (.tail (.tail (.tail (.tail (.tail (.tail .head)))))))))))))) (segP_set _ ht65)) ?_
          refine GL_nil ?_
          (repeat (first | (with_reducible refine R_seq ?_) | (with_reducible refine R_block_normal ?_)))
          (repeat (with_reducible refine G_seq ?_))
          refine G_region ?_
          refine GL_y rfl rfl (Y_move rfl) ?_
          refine GL_y rfl rfl (Y_addN (b := 1) rfl rfl (by first | omega | decide)) ?_
          refine GL_y rfl rfl (Y_assign rfl) ?_
          refine GL_nil ?_
          (repeat (first | (with_reducible refine R_seq ?_) | (with_reducible refine R_block_normal ?_)))
          (repeat (with_reducible refine R_block_normal ?_))
          refine R_fam (q + 1) ?_ (⟨by first | rfl | decide, by first | rfl | decide, by first | rfl | decide, by first | rfl | decide, by first | rfl | decide, by first | rfl | decide, by first | rfl | decide, by first | rfl | decide, by first | rfl | decide, trivial⟩) (by repeat (first | exact .nil | exact Pick.rfl' _ | exact Pick.skip (Pick.rfl' _) | exact Pick.skip (Pick.skip (Pick.rfl' _)) | (apply Pick.cons; focus (first | exact .head | exact (.tail .head) | exact (.tail (.tail .head)) | exact (.tail (.tail (.tail .head))) | exact (.tail (.tail (.tail (.tail .head)))) | exact (.tail (.tail (.tail (.tail (.tail .head))))) | exact (.tail (.tail (.tail (.tail (.tail (.tail .head)))))) | exact (.tail (.tail (.tail (.tail (.tail (.tail (.tail .head))))))) | exact (.tail (.tail (.tail (.tail (.tail (.tail (.tail (.tail .head)))))))) | exact (.tail (.tail (.tail (.tail (.tail (.tail (.tail (.tail (.tail .head))))))))) | exact (.tail (.tail (.tail (.tail (.tail (.tail (.tail (.tail (.tail (.tail .head)))))))))) | exact (.tail (.tail (.tail (.tail (.tail (.tail (.tail (.tail (.tail (.tail (.tail .head))))))))))) | exact (.tail (.tail (.tail (.tail (.tail (.tail (.tail (.tail (.tail (.tail (.tail (.tail .head)))))))))))) | exact (.tail (.tail (.tail (.tail (.tail (.tail (.tail (.tail (.tail (.tail (.tail (.tail (.tail .head)))))))))))))))))
          exact ⟨by omega, by omega⟩
        · -- no
          (repeat (with_reducible refine G_seq ?_))
          refine G_exit ?_
          (repeat (first | (with_reducible refine R_then_exit ?_) | (with_reducible refine R_block_exit ?_) | (with_reducible refine R_block_other (by decide) ?_)))
          (repeat (first | (with_reducible refine R_seq ?_) | (with_reducible refine R_block_normal ?_)))
          obtain rfl : q = 32 := by omega
          (repeat (with_reducible refine G_seq ?_))
          refine G_region ?_
          refine GL_y rfl rfl (Y_field fd24_4 rfl) ?_
          refine GL_y rfl rfl (Y_loadS rfl sc22 (by first | exact .head _ | exact .tail _ (.head _) | exact .tail _ (.tail _ (.head _)) | exact .tail _ (.tail _ (.tail _ (.head _))) | exact .tail _ (.tail _ (.tail _ (.tail _ (.head _)))) | exact .tail _ (.tail _ (.tail _ (.tail _ (.tail _ (.head _))))) | exact .tail _ (.tail _ (.tail _ (.tail _ (.tail _ (.tail _ (.head _)))))) | exact .tail _ (.tail _ (.tail _ (.tail _ (.tail _ (.tail _ (.tail _ (.head _))))))) | exact .tail _ (.tail _ (.tail _ (.tail _ (.tail _ (.tail _ (.tail _ (.tail _ (.head _)))))))) | exact .tail _ (.tail _ (.tail _ (.tail _ (.tail _ (.tail _ (.tail _ (.tail _ (.tail _ (.head _))))))))) | exact .tail _ (.tail _ (.tail _ (.tail _ (.tail _ (.tail _ (.tail _ (.tail _ (.tail _ (.tail _ (.head _)))))))))) | exact .tail _ (.tail _ (.tail _ (.tail _ (.tail _ (.tail _ (.tail _ (.tail _ (.tail _ (.tail _ (.tail _ (.head _))))))))))) | exact .tail _ (.tail _ (.tail _ (.tail _ (.tail _ (.tail _ (.tail _ (.tail _ (.tail _ (.tail _ (.tail _ (.tail _ (.head _)))))))))))) | exact .tail _ (.tail _ (.tail _ (.tail _ (.tail _ (.tail _ (.tail _ (.tail _ (.tail _ (.tail _ (.tail _ (.tail _ (.tail _ (.head _)))))))))))))) (by rfl)) ?_
          refine GL_y rfl rfl (Y_loadA (xs := segL (segP (bs.drop (24 + 40 * i.j)) 32)) rfl (by first | exact .head _ | exact .tail _ (.head _) | exact .tail _ (.tail _ (.head _)) | exact .tail _ (.tail _ (.tail _ (.head _))) | exact .tail _ (.tail _ (.tail _ (.tail _ (.head _)))) | exact .tail _ (.tail _ (.tail _ (.tail _ (.tail _ (.head _))))) | exact .tail _ (.tail _ (.tail _ (.tail _ (.tail _ (.tail _ (.head _)))))) | exact .tail _ (.tail _ (.tail _ (.tail _ (.tail _ (.tail _ (.tail _ (.head _))))))) | exact .tail _ (.tail _ (.tail _ (.tail _ (.tail _ (.tail _ (.tail _ (.tail _ (.head _)))))))) | exact .tail _ (.tail _ (.tail _ (.tail _ (.tail _ (.tail _ (.tail _ (.tail _ (.tail _ (.head _))))))))) | exact .tail _ (.tail _ (.tail _ (.tail _ (.tail _ (.tail _ (.tail _ (.tail _ (.tail _ (.tail _ (.head _)))))))))) | exact .tail _ (.tail _ (.tail _ (.tail _ (.tail _ (.tail _ (.tail _ (.tail _ (.tail _ (.tail _ (.tail _ (.head _))))))))))) | exact .tail _ (.tail _ (.tail _ (.tail _ (.tail _ (.tail _ (.tail _ (.tail _ (.tail _ (.tail _ (.tail _ (.tail _ (.head _)))))))))))) | exact .tail _ (.tail _ (.tail _ (.tail _ (.tail _ (.tail _ (.tail _ (.tail _ (.tail _ (.tail _ (.tail _ (.tail _ (.tail _ (.head _)))))))))))))) ag47 (segL_len _)) ?_
          refine GL_w rfl rfl (W_bs1 (xs := segL (segP (bs.drop (24 + 40 * i.j)) 32)) Try.underlying22 el47 rfl (segL_len _) (by decide) (by decide) fun b79 => ?_)
          refine GL_w rfl rfl (W_appRec (r := segsAt bs i.j) (a := segOf (bs.drop (24 + 40 * i.j))) segL_len segL_all (by decide) (by decide) Try.underlying22 el47 hO rfl (segsAt_len _ _).symm rfl (by rw [segsAt_len]; omega) (.skip (.skip (.skip (.skip (Pick.rfl' _))))) (by first | exact .head _ | exact .tail _ (.head _) | exact .tail _ (.tail _ (.head _)) | exact .tail _ (.tail _ (.tail _ (.head _))) | exact .tail _ (.tail _ (.tail _ (.tail _ (.head _)))) | exact .tail _ (.tail _ (.tail _ (.tail _ (.tail _ (.head _))))) | exact .tail _ (.tail _ (.tail _ (.tail _ (.tail _ (.tail _ (.head _)))))) | exact .tail _ (.tail _ (.tail _ (.tail _ (.tail _ (.tail _ (.tail _ (.head _))))))) | exact .tail _ (.tail _ (.tail _ (.tail _ (.tail _ (.tail _ (.tail _ (.tail _ (.head _)))))))) | exact .tail _ (.tail _ (.tail _ (.tail _ (.tail _ (.tail _ (.tail _ (.tail _ (.tail _ (.head _))))))))) | exact .tail _ (.tail _ (.tail _ (.tail _ (.tail _ (.tail _ (.tail _ (.tail _ (.tail _ (.tail _ (.head _)))))))))) | exact .tail _ (.tail _ (.tail _ (.tail _ (.tail _ (.tail _ (.tail _ (.tail _ (.tail _ (.tail _ (.tail _ (.head _))))))))))) | exact .tail _ (.tail _ (.tail _ (.tail _ (.tail _ (.tail _ (.tail _ (.tail _ (.tail _ (.tail _ (.tail _ (.tail _ (.head _)))))))))))) | exact .tail _ (.tail _ (.tail _ (.tail _ (.tail _ (.tail _ (.tail _ (.tail _ (.tail _ (.tail _ (.tail _ (.tail _ (.tail _ (.head _)))))))))))))) fun b80 c80 h80 => ?_)
          refine GL_y rfl rfl (Y_field fd24_4 rfl) ?_
          refine GL_s rfl (S_sc rfl sc22 rfl rfl (by first | exact .head | exact (.tail .head) | exact (.tail (.tail .head)) | exact (.tail (.tail (.tail .head))) | exact (.tail (.tail (.tail (.tail .head)))) | exact (.tail (.tail (.tail (.tail (.tail .head))))) | exact (.tail (.tail (.tail (.tail (.tail (.tail .head)))))) | exact (.tail (.tail (.tail (.tail (.tail (.tail (.tail .head))))))) | exact (.tail (.tail (.tail (.tail (.tail (.tail (.tail (.tail .head)))))))) | exact (.tail (.tail (.tail (.tail (.tail (.tail (.tail (.tail (.tail .head))))))))) | exact (.tail (.tail (.tail (.tail (.tail (.tail (.tail (.tail (.tail (.tail .head)))))))))) | exact (.tail (.tail (.tail (.tail (.tail (.tail (.tail (.tail (.tail (.tail (.tail .head))))))))))) | exact (.tail (.tail (.tail (.tail (.tail (.tail (.tail (.tail (.tail (.tail (.tail (.tail .head)))))))))))) | exact (.tail (.tail (.tail (.tail (.tail (.tail (.tail (.tail (.tail (.tail (.tail (.tail (.tail .head)))))))))))))) (by rfl)) ?_
          refine GL_nil ?_
          (repeat (first | (with_reducible refine R_seq ?_) | (with_reducible refine R_block_normal ?_)))
          (repeat (with_reducible refine G_seq ?_))
          refine G_region ?_
          refine GL_y rfl rfl (Y_move rfl) ?_
          refine GL_y rfl rfl (Y_addN (b := 1) rfl rfl (by first | omega | decide)) ?_
          refine GL_y rfl rfl (Y_assign rfl) ?_
          refine GL_nil ?_
          (repeat (first | (with_reducible refine R_seq ?_) | (with_reducible refine R_block_normal ?_)))
          (repeat (with_reducible refine R_block_normal ?_))
          rw [show segsAt bs i.j ++ [segOf (bs.drop (24 + 40 * i.j))] = segsAt bs (i.j + 1) from (segsAt_succ _ _).symm, segsAt_len]
          refine R_fam ⟨i.j + 1, [⟨b80, 47, c80 * 34, recL segL (segsAt bs (i.j + 1)), (0, 0)⟩], some ⟨b80, 0, none⟩, c80⟩ ?_ (⟨by first | rfl | decide, by first | rfl | decide, by first | rfl | decide, by first | rfl | decide, by first | rfl | decide, by first | rfl | decide, trivial⟩) (by repeat (first | exact .nil | exact Pick.rfl' _ | exact Pick.skip (Pick.rfl' _) | exact Pick.skip (Pick.skip (Pick.rfl' _)) | (apply Pick.cons; focus (first | exact .head | exact (.tail .head) | exact (.tail (.tail .head)) | exact (.tail (.tail (.tail .head))) | exact (.tail (.tail (.tail (.tail .head)))) | exact (.tail (.tail (.tail (.tail (.tail .head))))) | exact (.tail (.tail (.tail (.tail (.tail (.tail .head)))))) | exact (.tail (.tail (.tail (.tail (.tail (.tail (.tail .head))))))) | exact (.tail (.tail (.tail (.tail (.tail (.tail (.tail (.tail .head)))))))) | exact (.tail (.tail (.tail (.tail (.tail (.tail (.tail (.tail (.tail .head))))))))) | exact (.tail (.tail (.tail (.tail (.tail (.tail (.tail (.tail (.tail (.tail .head)))))))))) | exact (.tail (.tail (.tail (.tail (.tail (.tail (.tail (.tail (.tail (.tail (.tail .head))))))))))) | exact (.tail (.tail (.tail (.tail (.tail (.tail (.tail (.tail (.tail (.tail (.tail (.tail .head)))))))))))) | exact (.tail (.tail (.tail (.tail (.tail (.tail (.tail (.tail (.tail (.tail (.tail (.tail (.tail .head)))))))))))))))))
          exact ⟨⟨by simp only; omega, .inr ⟨b80, rfl, rfl⟩⟩, by simp only; omega⟩
    · -- no
      (repeat (with_reducible refine G_seq ?_))
      refine G_exit ?_
      (repeat (first | (with_reducible refine R_then_exit ?_) | (with_reducible refine R_block_exit ?_) | (with_reducible refine R_block_other (by decide) ?_)))
      (repeat (first | (with_reducible refine R_seq ?_) | (with_reducible refine R_block_normal ?_)))
      have hjn : i.j = numAt bs 20 := by omega
      have hM : [Value.int .i64 (numAt bs 4 : Nat), .int .i64 (numAt bs 8 : Nat), .int .i64 (numAt bs 12 : Nat), .int .i64 (numAt bs 16 : Nat), .slice i.sa i.j i.sc] = manL (parseD bs) i.sa i.sc := by
        show _ = [Value.int .i64 (numAt bs 4 : Nat), .int .i64 (numAt bs 8 : Nat), .int .i64 (numAt bs 12 : Nat), .int .i64 (numAt bs 16 : Nat), .slice i.sa (segsAt bs (numAt bs 20)).length i.sc]
        rw [segsAt_len, hjn]
      have hOf : OwnR segL 47 34 i.NS i.sa i.sc (parseD bs).segs := by
        show OwnR segL 47 34 i.NS i.sa i.sc (segsAt bs (numAt bs 20))
        rw [← hjn]; exact hO
      refine G_blk hM ?_
      (repeat (with_reducible refine G_seq ?_))
      refine G_draw [] 11 rfl (by kernel_rfl) ?_
      refine GA_l 0 rfl (by kernel_rfl) (by kernel_rfl) (by kernel_rfl) (fun _ _ _ h => h) rfl rfl rfl rfl (Y_loadA (b := b4) (xs := manL (parseD bs) i.sa i.sc) rfl (by first | exact .head _ | exact .tail _ (.head _) | exact .tail _ (.tail _ (.head _)) | exact .tail _ (.tail _ (.tail _ (.head _))) | exact .tail _ (.tail _ (.tail _ (.tail _ (.head _)))) | exact .tail _ (.tail _ (.tail _ (.tail _ (.tail _ (.head _))))) | exact .tail _ (.tail _ (.tail _ (.tail _ (.tail _ (.tail _ (.head _)))))) | exact .tail _ (.tail _ (.tail _ (.tail _ (.tail _ (.tail _ (.tail _ (.head _))))))) | exact .tail _ (.tail _ (.tail _ (.tail _ (.tail _ (.tail _ (.tail _ (.tail _ (.head _)))))))) | exact .tail _ (.tail _ (.tail _ (.tail _ (.tail _ (.tail _ (.tail _ (.tail _ (.tail _ (.head _))))))))) | exact .tail _ (.tail _ (.tail _ (.tail _ (.tail _ (.tail _ (.tail _ (.tail _ (.tail _ (.tail _ (.head _)))))))))) | exact .tail _ (.tail _ (.tail _ (.tail _ (.tail _ (.tail _ (.tail _ (.tail _ (.tail _ (.tail _ (.tail _ (.head _))))))))))) | exact .tail _ (.tail _ (.tail _ (.tail _ (.tail _ (.tail _ (.tail _ (.tail _ (.tail _ (.tail _ (.tail _ (.tail _ (.head _)))))))))))) | exact .tail _ (.tail _ (.tail _ (.tail _ (.tail _ (.tail _ (.tail _ (.tail _ (.tail _ (.tail _ (.tail _ (.tail _ (.tail _ (.head _)))))))))))))) ag24 rfl) ?_
      refine GA_one 1 (by kernel_rfl) ?_
      refine GO_call rfl rfl rfl rfl rfl rfl Try.call9 (fun w hw => refMay_is (m := parseD bs) (ao := i.sa) (c := i.sc) (hOf.sl ((show SL _ (⟨b4, 24, 5, manL (parseD bs) i.sa i.sc, (0, 0)⟩ :: ⟨b2, 24, 5, [.int .i64 0, .int .i64 0, .int .i64 0, .int .i64 0, .slice none 0 0], (0, 0)⟩ :: i.NS) _ _ from hw).tail.tail)) (by show (segsAt bs _).length ≤ 1000; rw [segsAt_len]; omega) hm) ?_
      rintro _ _ ⟨rfl, rfl⟩
      refine GA_y 2 rfl (by kernel_rfl) (by kernel_rfl) (by kernel_rfl) (fun _ _ _ h => h) rfl rfl rfl (Y_not rfl) ?_
      refine GA_y 3 rfl (by kernel_rfl) (by kernel_rfl) (by kernel_rfl) (fun _ _ _ h => h) rfl rfl rfl (Y_move rfl) ?_
      refine GA_l 4 rfl (by kernel_rfl) (by kernel_rfl) (by kernel_rfl) (fun _ _ _ h => h) rfl rfl rfl rfl (Y_loadA (b := b4) (xs := manL (parseD bs) i.sa i.sc) rfl (by first | exact .head _ | exact .tail _ (.head _) | exact .tail _ (.tail _ (.head _)) | exact .tail _ (.tail _ (.tail _ (.head _))) | exact .tail _ (.tail _ (.tail _ (.tail _ (.head _)))) | exact .tail _ (.tail _ (.tail _ (.tail _ (.tail _ (.head _))))) | exact .tail _ (.tail _ (.tail _ (.tail _ (.tail _ (.tail _ (.head _)))))) | exact .tail _ (.tail _ (.tail _ (.tail _ (.tail _ (.tail _ (.tail _ (.head _))))))) | exact .tail _ (.tail _ (.tail _ (.tail _ (.tail _ (.tail _ (.tail _ (.tail _ (.head _)))))))) | exact .tail _ (.tail _ (.tail _ (.tail _ (.tail _ (.tail _ (.tail _ (.tail _ (.tail _ (.head _))))))))) | exact .tail _ (.tail _ (.tail _ (.tail _ (.tail _ (.tail _ (.tail _ (.tail _ (.tail _ (.tail _ (.head _)))))))))) | exact .tail _ (.tail _ (.tail _ (.tail _ (.tail _ (.tail _ (.tail _ (.tail _ (.tail _ (.tail _ (.tail _ (.head _))))))))))) | exact .tail _ (.tail _ (.tail _ (.tail _ (.tail _ (.tail _ (.tail _ (.tail _ (.tail _ (.tail _ (.tail _ (.tail _ (.head _)))))))))))) | exact .tail _ (.tail _ (.tail _ (.tail _ (.tail _ (.tail _ (.tail _ (.tail _ (.tail _ (.tail _ (.tail _ (.tail _ (.tail _ (.head _)))))))))))))) ag24 rfl) ?_
      refine GA_y 7 rfl (by kernel_rfl) (by kernel_rfl) (by kernel_rfl) (fun _ _ _ h => h) rfl rfl rfl (Y_move rfl) ?_
      refine GA_y 8 rfl (by kernel_rfl) (by kernel_rfl) (by kernel_rfl) (fun _ _ _ h => h) rfl rfl rfl (Y_str (bs := bs) Try.underlying25 Try.underlying5 Try.underlying9 rfl rfl (fun w s => hs.keep s (by simp))) ?_
      refine GA_one 5 (by kernel_rfl) ?_
      refine GO_call rfl rfl rfl rfl rfl rfl Try.call11 (fun w hw => refBytes_is (m := parseD bs) (ao := i.sa) (c := i.sc) (hOf.sl ((show SL _ (⟨b4, 24, 5, manL (parseD bs) i.sa i.sc, (0, 0)⟩ :: ⟨b2, 24, 5, [.int .i64 0, .int .i64 0, .int .i64 0, .int .i64 0, .slice none 0 0], (0, 0)⟩ :: i.NS) _ _ from hw).tail.tail)) (by show (segsAt bs _).length ≤ 1000; rw [segsAt_len]; omega) hm) ?_
      rintro _ _ ⟨b87, c87, _, rfl, rfl⟩
      refine GA_l 6 rfl (by kernel_rfl) (by kernel_rfl) (by kernel_rfl) (fun _ _ _ h => h) rfl rfl rfl rfl (Y_str (bs := bytesM (parseD bs)) Try.underlying25 Try.underlying5 Try.underlying9 rfl rfl (fun w s => SlAt.mk' (s.cells (k := ⟨b87, 5, c87 * 1, B (bytesM (parseD bs)), (0, 0)⟩) (by first | exact .head _ | exact .tail _ (.head _) | exact .tail _ (.tail _ (.head _)) | exact .tail _ (.tail _ (.tail _ (.head _))) | exact .tail _ (.tail _ (.tail _ (.tail _ (.head _)))) | exact .tail _ (.tail _ (.tail _ (.tail _ (.tail _ (.head _))))) | exact .tail _ (.tail _ (.tail _ (.tail _ (.tail _ (.tail _ (.head _)))))) | exact .tail _ (.tail _ (.tail _ (.tail _ (.tail _ (.tail _ (.tail _ (.head _))))))) | exact .tail _ (.tail _ (.tail _ (.tail _ (.tail _ (.tail _ (.tail _ (.tail _ (.head _)))))))) | exact .tail _ (.tail _ (.tail _ (.tail _ (.tail _ (.tail _ (.tail _ (.tail _ (.tail _ (.head _))))))))) | exact .tail _ (.tail _ (.tail _ (.tail _ (.tail _ (.tail _ (.tail _ (.tail _ (.tail _ (.tail _ (.head _)))))))))) | exact .tail _ (.tail _ (.tail _ (.tail _ (.tail _ (.tail _ (.tail _ (.tail _ (.tail _ (.tail _ (.tail _ (.head _))))))))))) | exact .tail _ (.tail _ (.tail _ (.tail _ (.tail _ (.tail _ (.tail _ (.tail _ (.tail _ (.tail _ (.tail _ (.tail _ (.head _)))))))))))) | exact .tail _ (.tail _ (.tail _ (.tail _ (.tail _ (.tail _ (.tail _ (.tail _ (.tail _ (.tail _ (.tail _ (.tail _ (.tail _ (.head _))))))))))))))))) ?_
      refine GA_y 9 rfl (by kernel_rfl) (by kernel_rfl) (by kernel_rfl) (fun _ _ _ h => h) rfl rfl rfl (Y_neqstr rfl rfl) ?_
      refine GA_y 10 rfl (by kernel_rfl) (by kernel_rfl) (by kernel_rfl) (fun _ _ _ h => h) rfl rfl rfl (Y_pick rfl rfl rfl rfl) ?_
      refine GA_done (by kernel_rfl) ?_
      (repeat (first | (with_reducible refine R_seq ?_) | (with_reducible refine R_block_normal ?_)))
      (repeat (with_reducible refine G_seq ?_))
      refine G_cond_f rfl (by simp [hb]) ?_
      (repeat (with_reducible refine G_seq ?_))
      refine G_skip ?_
      (repeat (first | (with_reducible refine R_seq ?_) | (with_reducible refine R_block_normal ?_)))
      (repeat (with_reducible refine G_seq ?_))
      refine G_region ?_
      refine GL_y rfl rfl (Y_loadA (b := b4) (xs := manL (parseD bs) i.sa i.sc) rfl (by first | exact .head _ | exact .tail _ (.head _) | exact .tail _ (.tail _ (.head _)) | exact .tail _ (.tail _ (.tail _ (.head _))) | exact .tail _ (.tail _ (.tail _ (.tail _ (.head _)))) | exact .tail _ (.tail _ (.tail _ (.tail _ (.tail _ (.head _))))) | exact .tail _ (.tail _ (.tail _ (.tail _ (.tail _ (.tail _ (.head _)))))) | exact .tail _ (.tail _ (.tail _ (.tail _ (.tail _ (.tail _ (.tail _ (.head _))))))) | exact .tail _ (.tail _ (.tail _ (.tail _ (.tail _ (.tail _ (.tail _ (.tail _ (.head _)))))))) | exact .tail _ (.tail _ (.tail _ (.tail _ (.tail _ (.tail _ (.tail _ (.tail _ (.tail _ (.head _))))))))) | exact .tail _ (.tail _ (.tail _ (.tail _ (.tail _ (.tail _ (.tail _ (.tail _ (.tail _ (.tail _ (.head _)))))))))) | exact .tail _ (.tail _ (.tail _ (.tail _ (.tail _ (.tail _ (.tail _ (.tail _ (.tail _ (.tail _ (.tail _ (.head _))))))))))) | exact .tail _ (.tail _ (.tail _ (.tail _ (.tail _ (.tail _ (.tail _ (.tail _ (.tail _ (.tail _ (.tail _ (.tail _ (.head _)))))))))))) | exact .tail _ (.tail _ (.tail _ (.tail _ (.tail _ (.tail _ (.tail _ (.tail _ (.tail _ (.tail _ (.tail _ (.tail _ (.tail _ (.head _)))))))))))))) ag24 rfl) ?_
      refine GL_s rfl (S_all rfl rfl ag24 (by rfl) (by rfl) (by first | exact .head | exact (.tail .head) | exact (.tail (.tail .head)) | exact (.tail (.tail (.tail .head))) | exact (.tail (.tail (.tail (.tail .head)))) | exact (.tail (.tail (.tail (.tail (.tail .head))))) | exact (.tail (.tail (.tail (.tail (.tail (.tail .head)))))) | exact (.tail (.tail (.tail (.tail (.tail (.tail (.tail .head))))))) | exact (.tail (.tail (.tail (.tail (.tail (.tail (.tail (.tail .head)))))))) | exact (.tail (.tail (.tail (.tail (.tail (.tail (.tail (.tail (.tail .head))))))))) | exact (.tail (.tail (.tail (.tail (.tail (.tail (.tail (.tail (.tail (.tail .head)))))))))) | exact (.tail (.tail (.tail (.tail (.tail (.tail (.tail (.tail (.tail (.tail (.tail .head))))))))))) | exact (.tail (.tail (.tail (.tail (.tail (.tail (.tail (.tail (.tail (.tail (.tail (.tail .head)))))))))))) | exact (.tail (.tail (.tail (.tail (.tail (.tail (.tail (.tail (.tail (.tail (.tail (.tail (.tail .head)))))))))))))) (by rfl)) ?_
      refine GL_y rfl rfl (Y_assign rfl) ?_
      refine GL_nil ?_
      (repeat (first | (with_reducible refine R_seq ?_) | (with_reducible refine R_block_normal ?_)))
      (repeat (with_reducible refine G_seq ?_))
      refine G_ret ?_
      (repeat (first | (with_reducible refine R_then_ret ?_) | (with_reducible refine R_block_ret ?_)))
      exact R_ret (.ag rfl (by first | exact .head _ | exact .tail _ (.head _) | exact .tail _ (.tail _ (.head _)) | exact .tail _ (.tail _ (.tail _ (.head _))) | exact .tail _ (.tail _ (.tail _ (.tail _ (.head _)))) | exact .tail _ (.tail _ (.tail _ (.tail _ (.tail _ (.head _))))) | exact .tail _ (.tail _ (.tail _ (.tail _ (.tail _ (.tail _ (.head _)))))) | exact .tail _ (.tail _ (.tail _ (.tail _ (.tail _ (.tail _ (.tail _ (.head _))))))) | exact .tail _ (.tail _ (.tail _ (.tail _ (.tail _ (.tail _ (.tail _ (.tail _ (.head _)))))))) | exact .tail _ (.tail _ (.tail _ (.tail _ (.tail _ (.tail _ (.tail _ (.tail _ (.tail _ (.head _))))))))) | exact .tail _ (.tail _ (.tail _ (.tail _ (.tail _ (.tail _ (.tail _ (.tail _ (.tail _ (.tail _ (.head _)))))))))) | exact .tail _ (.tail _ (.tail _ (.tail _ (.tail _ (.tail _ (.tail _ (.tail _ (.tail _ (.tail _ (.tail _ (.head _))))))))))) | exact .tail _ (.tail _ (.tail _ (.tail _ (.tail _ (.tail _ (.tail _ (.tail _ (.tail _ (.tail _ (.tail _ (.tail _ (.head _)))))))))))) | exact .tail _ (.tail _ (.tail _ (.tail _ (.tail _ (.tail _ (.tail _ (.tail _ (.tail _ (.tail _ (.tail _ (.tail _ (.tail _ (.head _)))))))))))))) (by exact ag24) (.tmp rfl .nil)) i.NS (by first | exact Pick.skip (Pick.skip (Pick.rfl' _)) | exact Pick.skip (Pick.skip (Pick.skip (Pick.rfl' _)))) ⟨i.sa, i.sc, rfl, hOf⟩
end Go.Proofs.Ythabomkcangegaa

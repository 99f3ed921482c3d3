/-
  The document's examples; the law KeysLay.
-/
import Derived.Test.YtkdodpcafamhaaaK5
namespace Go.Proofs.Ytkdodpcafamhaaa
open Go Go.Sl Go.RowKit

def k3 : KeyD := ⟨3, 7 :: List.replicate 31 0, rfl, false⟩
theorem at3 {w : World} {b : Nat} {k : KeyD} (h : CellsAt w b 0 (keyL k)) : SlAt w (some ⟨b, 0, none⟩) (ringL [k]) := by rw [ringL_one]; exact SlAt.mk' h
theorem same_is' {ao ao2 : Option Addr} {c c2 l1 l2 : Nat} {r1 r2 : List KeyD} {w : World} (hs : SlAt w ao (ringL r1)) (hs2 : SlAt w ao2 (ringL r2)) (hlen : r1.length ≤ 1000) (h1 : l1 = r1.length) (h2 : l2 = r2.length) :
    FnAt Try.prog 12 [.slice ao l1 c, .slice ao2 l2 c2] [] w (Ret fun v N => v = .bool (decide (r1 = r2)) ∧ N = []) := by
  subst h1; subst h2; exact same_is hs hs2 hlen
theorem find_is' {ao : Option Addr} {c l : Nat} {ring : List KeyD} {x : Int} {w : World} (hs : SlAt w ao (ringL ring)) (hlen : ring.length ≤ 1000) (h1 : l = ring.length) :
    FnAt Try.prog 10 [.slice ao l c, .int .i64 x] [] w (Ret fun v N => v = .tuple #[.agg (B (findD ring x).1).toArray, .int .i64 ((findD ring x).2 : Nat)] ∧ N = []) := by
  subst h1; exact find_is hs hlen
theorem refPlace_no {ao : Option Addr} {c : Nat} {ring : List KeyD} {x : Int} {w : World} (hs : SlAt w ao (ringL ring)) (hlen : ring.length ≤ 1000) (hp : posD ring x = none) :
    FnAt Try.prog 16 [.slice ao ring.length c, .int .i64 x] [] w (Ret fun v N => v = .int .i64 (-1) ∧ N = []) := by
  have h := refPlace_is (c := c) (x := x) hs hlen
  rw [hp] at h; exact h
theorem refPlace_at {ao : Option Addr} {c i : Nat} {ring : List KeyD} {x : Int} {w : World} (hs : SlAt w ao (ringL ring)) (hlen : ring.length ≤ 1000) (hp : posD ring x = some i) :
    FnAt Try.prog 16 [.slice ao ring.length c, .int .i64 x] [] w (Ret fun v N => v = .int .i64 (i : Int) ∧ N = []) := by
  have h := refPlace_is (c := c) (x := x) hs hlen
  rw [hp] at h; exact h
set_option maxHeartbeats 4000000 in
theorem awake_is {w : World} : FnAt Try.prog 14 [] [] w (Ret fun v N => v = .bool true ∧ N = []) := by
  refine FnAt.intro Try.func14 rfl Try.ntmps14 rfl _ rfl ?_
  (repeat (with_reducible refine G_seq ?_))
  refine G_region ?_
  refine GL_y rfl rfl (Y_assign rfl) ?_
  refine GL_nil ?_
  (repeat (first | (with_reducible refine R_seq ?_) | (with_reducible refine R_block_normal ?_)))
  (repeat (with_reducible refine G_seq ?_))
  refine G_region ?_
  refine GL_call rfl rfl rfl rfl Try.call9 .nil (fun w hw => bytes_ok (ao := none) (c := 0) (ring := []) (SlAt.nil _ _) (by simp) (by rfl)) ?_
  rintro _ _ ⟨b13, c13, _, rfl, rfl⟩
  refine GL_y rfl rfl (Y_move rfl) ?_
  refine GL_y rfl rfl (Y_extract rfl rfl) ?_
  refine GL_y rfl rfl (Y_extract rfl rfl) ?_
  refine GL_y rfl rfl (Y_assign rfl) ?_
  refine GL_y rfl rfl (Y_assign rfl) ?_
  refine GL_nil ?_
  (repeat (first | (with_reducible refine R_seq ?_) | (with_reducible refine R_block_normal ?_)))
  (repeat (with_reducible refine G_seq ?_))
  refine G_region ?_
  refine GL_y rfl rfl (Y_build (v := .agg (B k3.bytes).toArray) (vs := [(0, .int .u8 7)]) rfl (fun w => run_build w 28 _ _ (by kernel_rfl))) ?_
  refine GL_y rfl rfl (Y_build (v := .agg (keyL k3).toArray) (vs := [(0, .int .i64 3), (1, .agg (B k3.bytes).toArray)]) rfl (fun w => run_build w 39 _ _ (by kernel_rfl))) ?_
  refine GL_w rfl rfl (W_bs1 (xs := keyL k3) Try.underlying22 el39 rfl (keyL_len _) (by decide) (by decide) fun b18 => ?_)
  refine GL_y rfl rfl (Y_assign rfl) ?_
  refine GL_nil ?_
  (repeat (first | (with_reducible refine R_seq ?_) | (with_reducible refine R_block_normal ?_)))
  (repeat (with_reducible refine G_seq ?_))
  refine G_region ?_
  refine GL_y rfl rfl (Y_move rfl) ?_
  refine GL_call rfl rfl rfl rfl Try.call10 .nil (fun w hw => find_ok (ring := [k3]) (i := 0) (k := k3) (at3 (hw.cells (k := ⟨b18, 39, 1 * 34, keyL k3, (0, 0)⟩) (by first | exact .head _ | exact .tail _ (.head _) | exact .tail _ (.tail _ (.head _)) | exact .tail _ (.tail _ (.tail _ (.head _))) | exact .tail _ (.tail _ (.tail _ (.tail _ (.head _)))) | exact .tail _ (.tail _ (.tail _ (.tail _ (.tail _ (.head _))))) | exact .tail _ (.tail _ (.tail _ (.tail _ (.tail _ (.tail _ (.head _)))))) | exact .tail _ (.tail _ (.tail _ (.tail _ (.tail _ (.tail _ (.tail _ (.head _))))))) | exact .tail _ (.tail _ (.tail _ (.tail _ (.tail _ (.tail _ (.tail _ (.tail _ (.head _)))))))) | exact .tail _ (.tail _ (.tail _ (.tail _ (.tail _ (.tail _ (.tail _ (.tail _ (.tail _ (.head _))))))))) | exact .tail _ (.tail _ (.tail _ (.tail _ (.tail _ (.tail _ (.tail _ (.tail _ (.tail _ (.tail _ (.head _)))))))))) | exact .tail _ (.tail _ (.tail _ (.tail _ (.tail _ (.tail _ (.tail _ (.tail _ (.tail _ (.tail _ (.tail _ (.head _))))))))))) | exact .tail _ (.tail _ (.tail _ (.tail _ (.tail _ (.tail _ (.tail _ (.tail _ (.tail _ (.tail _ (.tail _ (.tail _ (.head _)))))))))))) | exact .tail _ (.tail _ (.tail _ (.tail _ (.tail _ (.tail _ (.tail _ (.tail _ (.tail _ (.tail _ (.tail _ (.tail _ (.tail _ (.head _)))))))))))))))) (by simp) (by rfl) (by rfl) rfl rfl) ?_
  rintro _ _ ⟨rfl, rfl⟩
  refine GL_y rfl rfl (Y_move rfl) ?_
  refine GL_y rfl rfl (Y_extract rfl rfl) ?_
  refine GL_y rfl rfl (Y_extract rfl rfl) ?_
  refine GL_w rfl rfl (W_alloc zr28 fun b4 => ?_)
  refine GL_s rfl (S_all rfl rfl ag28 (by rfl) (all_B _) (by first | exact .head | exact (.tail .head) | exact (.tail (.tail .head)) | exact (.tail (.tail (.tail .head))) | exact (.tail (.tail (.tail (.tail .head)))) | exact (.tail (.tail (.tail (.tail (.tail .head))))) | exact (.tail (.tail (.tail (.tail (.tail (.tail .head)))))) | exact (.tail (.tail (.tail (.tail (.tail (.tail (.tail .head))))))) | exact (.tail (.tail (.tail (.tail (.tail (.tail (.tail (.tail .head)))))))) | exact (.tail (.tail (.tail (.tail (.tail (.tail (.tail (.tail (.tail .head))))))))) | exact (.tail (.tail (.tail (.tail (.tail (.tail (.tail (.tail (.tail (.tail .head)))))))))) | exact (.tail (.tail (.tail (.tail (.tail (.tail (.tail (.tail (.tail (.tail (.tail .head))))))))))) | exact (.tail (.tail (.tail (.tail (.tail (.tail (.tail (.tail (.tail (.tail (.tail (.tail .head)))))))))))) | exact (.tail (.tail (.tail (.tail (.tail (.tail (.tail (.tail (.tail (.tail (.tail (.tail (.tail .head)))))))))))))) (by rfl)) ?_
  refine GL_y rfl rfl (Y_assign rfl) ?_
  refine GL_nil ?_
  (repeat (first | (with_reducible refine R_seq ?_) | (with_reducible refine R_block_normal ?_)))
  (repeat (with_reducible refine G_seq ?_))
  refine G_region ?_
  refine GL_y rfl rfl (Y_move rfl) ?_
  refine GL_call rfl rfl rfl rfl Try.call10 .nil (fun w hw => find_no (ring := [k3]) (at3 (hw.cells (k := ⟨b18, 39, 1 * 34, keyL k3, (0, 0)⟩) (by first | exact .head _ | exact .tail _ (.head _) | exact .tail _ (.tail _ (.head _)) | exact .tail _ (.tail _ (.tail _ (.head _))) | exact .tail _ (.tail _ (.tail _ (.tail _ (.head _)))) | exact .tail _ (.tail _ (.tail _ (.tail _ (.tail _ (.head _))))) | exact .tail _ (.tail _ (.tail _ (.tail _ (.tail _ (.tail _ (.head _)))))) | exact .tail _ (.tail _ (.tail _ (.tail _ (.tail _ (.tail _ (.tail _ (.head _))))))) | exact .tail _ (.tail _ (.tail _ (.tail _ (.tail _ (.tail _ (.tail _ (.tail _ (.head _)))))))) | exact .tail _ (.tail _ (.tail _ (.tail _ (.tail _ (.tail _ (.tail _ (.tail _ (.tail _ (.head _))))))))) | exact .tail _ (.tail _ (.tail _ (.tail _ (.tail _ (.tail _ (.tail _ (.tail _ (.tail _ (.tail _ (.head _)))))))))) | exact .tail _ (.tail _ (.tail _ (.tail _ (.tail _ (.tail _ (.tail _ (.tail _ (.tail _ (.tail _ (.tail _ (.head _))))))))))) | exact .tail _ (.tail _ (.tail _ (.tail _ (.tail _ (.tail _ (.tail _ (.tail _ (.tail _ (.tail _ (.tail _ (.tail _ (.head _)))))))))))) | exact .tail _ (.tail _ (.tail _ (.tail _ (.tail _ (.tail _ (.tail _ (.tail _ (.tail _ (.tail _ (.tail _ (.tail _ (.tail _ (.head _)))))))))))))))) (by simp) (by rfl) (by rfl)) ?_
  rintro _ _ ⟨rfl, rfl⟩
  refine GL_y rfl rfl (Y_move rfl) ?_
  refine GL_y rfl rfl (Y_extract rfl rfl) ?_
  refine GL_y rfl rfl (Y_extract rfl rfl) ?_
  refine GL_w rfl rfl (W_alloc zr28 fun b6 => ?_)
  refine GL_s rfl (S_all rfl rfl ag28 (by rfl) (all_B _) (by first | exact .head | exact (.tail .head) | exact (.tail (.tail .head)) | exact (.tail (.tail (.tail .head))) | exact (.tail (.tail (.tail (.tail .head)))) | exact (.tail (.tail (.tail (.tail (.tail .head))))) | exact (.tail (.tail (.tail (.tail (.tail (.tail .head)))))) | exact (.tail (.tail (.tail (.tail (.tail (.tail (.tail .head))))))) | exact (.tail (.tail (.tail (.tail (.tail (.tail (.tail (.tail .head)))))))) | exact (.tail (.tail (.tail (.tail (.tail (.tail (.tail (.tail (.tail .head))))))))) | exact (.tail (.tail (.tail (.tail (.tail (.tail (.tail (.tail (.tail (.tail .head)))))))))) | exact (.tail (.tail (.tail (.tail (.tail (.tail (.tail (.tail (.tail (.tail (.tail .head))))))))))) | exact (.tail (.tail (.tail (.tail (.tail (.tail (.tail (.tail (.tail (.tail (.tail (.tail .head)))))))))))) | exact (.tail (.tail (.tail (.tail (.tail (.tail (.tail (.tail (.tail (.tail (.tail (.tail (.tail .head)))))))))))))) (by rfl)) ?_
  refine GL_y rfl rfl (Y_assign rfl) ?_
  refine GL_nil ?_
  (repeat (first | (with_reducible refine R_seq ?_) | (with_reducible refine R_block_normal ?_)))
  (repeat (with_reducible refine G_seq ?_))
  refine G_region ?_
  refine GL_y rfl rfl (Y_move rfl) ?_
  refine GL_call rfl rfl rfl rfl Try.call11 .nil (fun w hw => revoke_at (ring := [k3]) (i := 0) (k := k3) (at3 (hw.cells (k := ⟨b18, 39, 1 * 34, keyL k3, (0, 0)⟩) (by first | exact .head _ | exact .tail _ (.head _) | exact .tail _ (.tail _ (.head _)) | exact .tail _ (.tail _ (.tail _ (.head _))) | exact .tail _ (.tail _ (.tail _ (.tail _ (.head _)))) | exact .tail _ (.tail _ (.tail _ (.tail _ (.tail _ (.head _))))) | exact .tail _ (.tail _ (.tail _ (.tail _ (.tail _ (.tail _ (.head _)))))) | exact .tail _ (.tail _ (.tail _ (.tail _ (.tail _ (.tail _ (.tail _ (.head _))))))) | exact .tail _ (.tail _ (.tail _ (.tail _ (.tail _ (.tail _ (.tail _ (.tail _ (.head _)))))))) | exact .tail _ (.tail _ (.tail _ (.tail _ (.tail _ (.tail _ (.tail _ (.tail _ (.tail _ (.head _))))))))) | exact .tail _ (.tail _ (.tail _ (.tail _ (.tail _ (.tail _ (.tail _ (.tail _ (.tail _ (.tail _ (.head _)))))))))) | exact .tail _ (.tail _ (.tail _ (.tail _ (.tail _ (.tail _ (.tail _ (.tail _ (.tail _ (.tail _ (.tail _ (.head _))))))))))) | exact .tail _ (.tail _ (.tail _ (.tail _ (.tail _ (.tail _ (.tail _ (.tail _ (.tail _ (.tail _ (.tail _ (.tail _ (.head _)))))))))))) | exact .tail _ (.tail _ (.tail _ (.tail _ (.tail _ (.tail _ (.tail _ (.tail _ (.tail _ (.tail _ (.tail _ (.tail _ (.tail _ (.head _)))))))))))))))) (by simp) (by rfl) (by rfl) rfl) ?_
  rintro _ _ ⟨b31, c31, rfl, rfl⟩
  refine GL_y rfl rfl (Y_move rfl) ?_
  refine GL_y rfl rfl (Y_extract rfl rfl) ?_
  refine GL_y rfl rfl (Y_extract rfl rfl) ?_
  refine GL_y rfl rfl (Y_assign rfl) ?_
  refine GL_y rfl rfl (Y_assign rfl) ?_
  refine GL_nil ?_
  (repeat (first | (with_reducible refine R_seq ?_) | (with_reducible refine R_block_normal ?_)))
  (repeat (with_reducible refine G_seq ?_))
  refine G_region ?_
  refine GL_y rfl rfl (Y_move rfl) ?_
  refine GL_call rfl rfl rfl rfl Try.call10 .nil (fun w hw => find_rev (ring := [{ k3 with rev := true }]) (i := 0) (k := { k3 with rev := true }) (SlAt.mk' (hw.cells (k := ⟨b31, 39, c31 * 34, ringL ([k3].set 0 { k3 with rev := true }), (0, 0)⟩) (by first | exact .head _ | exact .tail _ (.head _) | exact .tail _ (.tail _ (.head _)) | exact .tail _ (.tail _ (.tail _ (.head _))) | exact .tail _ (.tail _ (.tail _ (.tail _ (.head _)))) | exact .tail _ (.tail _ (.tail _ (.tail _ (.tail _ (.head _))))) | exact .tail _ (.tail _ (.tail _ (.tail _ (.tail _ (.tail _ (.head _)))))) | exact .tail _ (.tail _ (.tail _ (.tail _ (.tail _ (.tail _ (.tail _ (.head _))))))) | exact .tail _ (.tail _ (.tail _ (.tail _ (.tail _ (.tail _ (.tail _ (.tail _ (.head _)))))))) | exact .tail _ (.tail _ (.tail _ (.tail _ (.tail _ (.tail _ (.tail _ (.tail _ (.tail _ (.head _))))))))) | exact .tail _ (.tail _ (.tail _ (.tail _ (.tail _ (.tail _ (.tail _ (.tail _ (.tail _ (.tail _ (.head _)))))))))) | exact .tail _ (.tail _ (.tail _ (.tail _ (.tail _ (.tail _ (.tail _ (.tail _ (.tail _ (.tail _ (.tail _ (.head _))))))))))) | exact .tail _ (.tail _ (.tail _ (.tail _ (.tail _ (.tail _ (.tail _ (.tail _ (.tail _ (.tail _ (.tail _ (.tail _ (.head _)))))))))))) | exact .tail _ (.tail _ (.tail _ (.tail _ (.tail _ (.tail _ (.tail _ (.tail _ (.tail _ (.tail _ (.tail _ (.tail _ (.tail _ (.head _)))))))))))))))) (by simp) (by rfl) (by rfl) rfl rfl) ?_
  rintro _ _ ⟨rfl, rfl⟩
  refine GL_y rfl rfl (Y_move rfl) ?_
  refine GL_y rfl rfl (Y_extract rfl rfl) ?_
  refine GL_y rfl rfl (Y_extract rfl rfl) ?_
  refine GL_w rfl rfl (W_alloc zr28 fun b10 => ?_)
  refine GL_s rfl (S_all rfl rfl ag28 (by rfl) (all_B _) (by first | exact .head | exact (.tail .head) | exact (.tail (.tail .head)) | exact (.tail (.tail (.tail .head))) | exact (.tail (.tail (.tail (.tail .head)))) | exact (.tail (.tail (.tail (.tail (.tail .head))))) | exact (.tail (.tail (.tail (.tail (.tail (.tail .head)))))) | exact (.tail (.tail (.tail (.tail (.tail (.tail (.tail .head))))))) | exact (.tail (.tail (.tail (.tail (.tail (.tail (.tail (.tail .head)))))))) | exact (.tail (.tail (.tail (.tail (.tail (.tail (.tail (.tail (.tail .head))))))))) | exact (.tail (.tail (.tail (.tail (.tail (.tail (.tail (.tail (.tail (.tail .head)))))))))) | exact (.tail (.tail (.tail (.tail (.tail (.tail (.tail (.tail (.tail (.tail (.tail .head))))))))))) | exact (.tail (.tail (.tail (.tail (.tail (.tail (.tail (.tail (.tail (.tail (.tail (.tail .head)))))))))))) | exact (.tail (.tail (.tail (.tail (.tail (.tail (.tail (.tail (.tail (.tail (.tail (.tail (.tail .head)))))))))))))) (by rfl)) ?_
  refine GL_y rfl rfl (Y_assign rfl) ?_
  refine GL_nil ?_
  (repeat (first | (with_reducible refine R_seq ?_) | (with_reducible refine R_block_normal ?_)))
  (repeat (with_reducible refine G_seq ?_))
  refine G_region ?_
  refine GL_y rfl rfl (Y_move rfl) ?_
  refine GL_y rfl rfl (Y_str (bs := bytesD []) Try.underlying24 Try.underlying5 Try.underlying9 rfl rfl (fun w s => SlAt.mk' (s.cells (k := ⟨b13, 5, c13 * 1, B (bytesD []), (0, 0)⟩) (by first | exact .head _ | exact .tail _ (.head _) | exact .tail _ (.tail _ (.head _)) | exact .tail _ (.tail _ (.tail _ (.head _))) | exact .tail _ (.tail _ (.tail _ (.tail _ (.head _)))) | exact .tail _ (.tail _ (.tail _ (.tail _ (.tail _ (.head _))))) | exact .tail _ (.tail _ (.tail _ (.tail _ (.tail _ (.tail _ (.head _)))))) | exact .tail _ (.tail _ (.tail _ (.tail _ (.tail _ (.tail _ (.tail _ (.head _))))))) | exact .tail _ (.tail _ (.tail _ (.tail _ (.tail _ (.tail _ (.tail _ (.tail _ (.head _)))))))) | exact .tail _ (.tail _ (.tail _ (.tail _ (.tail _ (.tail _ (.tail _ (.tail _ (.tail _ (.head _))))))))) | exact .tail _ (.tail _ (.tail _ (.tail _ (.tail _ (.tail _ (.tail _ (.tail _ (.tail _ (.tail _ (.head _)))))))))) | exact .tail _ (.tail _ (.tail _ (.tail _ (.tail _ (.tail _ (.tail _ (.tail _ (.tail _ (.tail _ (.tail _ (.head _))))))))))) | exact .tail _ (.tail _ (.tail _ (.tail _ (.tail _ (.tail _ (.tail _ (.tail _ (.tail _ (.tail _ (.tail _ (.tail _ (.head _)))))))))))) | exact .tail _ (.tail _ (.tail _ (.tail _ (.tail _ (.tail _ (.tail _ (.tail _ (.tail _ (.tail _ (.tail _ (.tail _ (.tail _ (.head _))))))))))))))))) ?_
  refine GL_y rfl rfl ((Y_eqstr (m := [114, 105, 110, 103, 0, 0, 0, 0]) rfl (by rfl)).as (.bool true) (congrArg Value.bool (decide_eq_true (by decide)))) ?_
  refine GL_y rfl rfl (Y_move rfl) ?_
  refine GL_y rfl rfl (Y_move rfl) ?_
  refine GL_y rfl rfl (Y_iop (v := .bool true) rfl rfl rfl) ?_
  refine GL_y rfl rfl (Y_pick rfl rfl rfl rfl) ?_
  refine GL_y rfl rfl (Y_move rfl) ?_
  refine GL_y rfl rfl (Y_idxA1 (j := 0) ar28 rfl rfl (by first | omega | decide)) ?_
  refine GL_y rfl rfl (Y_loadS (v := bv 7) rfl sc5 (by first | exact .head _ | exact .tail _ (.head _) | exact .tail _ (.tail _ (.head _)) | exact .tail _ (.tail _ (.tail _ (.head _))) | exact .tail _ (.tail _ (.tail _ (.tail _ (.head _)))) | exact .tail _ (.tail _ (.tail _ (.tail _ (.tail _ (.head _))))) | exact .tail _ (.tail _ (.tail _ (.tail _ (.tail _ (.tail _ (.head _)))))) | exact .tail _ (.tail _ (.tail _ (.tail _ (.tail _ (.tail _ (.tail _ (.head _))))))) | exact .tail _ (.tail _ (.tail _ (.tail _ (.tail _ (.tail _ (.tail _ (.tail _ (.head _)))))))) | exact .tail _ (.tail _ (.tail _ (.tail _ (.tail _ (.tail _ (.tail _ (.tail _ (.tail _ (.head _))))))))) | exact .tail _ (.tail _ (.tail _ (.tail _ (.tail _ (.tail _ (.tail _ (.tail _ (.tail _ (.tail _ (.head _)))))))))) | exact .tail _ (.tail _ (.tail _ (.tail _ (.tail _ (.tail _ (.tail _ (.tail _ (.tail _ (.tail _ (.tail _ (.head _))))))))))) | exact .tail _ (.tail _ (.tail _ (.tail _ (.tail _ (.tail _ (.tail _ (.tail _ (.tail _ (.tail _ (.tail _ (.tail _ (.head _)))))))))))) | exact .tail _ (.tail _ (.tail _ (.tail _ (.tail _ (.tail _ (.tail _ (.tail _ (.tail _ (.tail _ (.tail _ (.tail _ (.tail _ (.head _)))))))))))))) (by rfl)) ?_
  refine GL_y rfl rfl (Y_iop (v := .bool true) rfl rfl rfl) ?_
  refine GL_y rfl rfl (Y_pick rfl rfl rfl rfl) ?_
  refine GL_y rfl rfl (Y_move rfl) ?_
  refine GL_y rfl rfl (Y_move rfl) ?_
  refine GL_y rfl rfl (Y_iop (v := .bool true) rfl rfl rfl) ?_
  refine GL_y rfl rfl (Y_pick rfl rfl rfl rfl) ?_
  refine GL_y rfl rfl (Y_move rfl) ?_
  refine GL_y rfl rfl (Y_move rfl) ?_
  refine GL_y rfl rfl (Y_iop (v := .bool true) rfl rfl rfl) ?_
  refine GL_y rfl rfl (Y_pick rfl rfl rfl rfl) ?_
  refine GL_y rfl rfl (Y_move rfl) ?_
  refine GL_y rfl rfl (Y_move rfl) ?_
  refine GL_y rfl rfl (Y_iop (v := .bool true) rfl rfl rfl) ?_
  refine GL_y rfl rfl (Y_pick rfl rfl rfl rfl) ?_
  refine GL_y rfl rfl (Y_move rfl) ?_
  refine GL_y rfl rfl (Y_move rfl) ?_
  refine GL_y rfl rfl (Y_iop (v := .bool true) rfl rfl rfl) ?_
  refine GL_y rfl rfl (Y_pick rfl rfl rfl rfl) ?_
  refine GL_y rfl rfl (Y_assign rfl) ?_
  refine GL_nil ?_
  (repeat (first | (with_reducible refine R_seq ?_) | (with_reducible refine R_block_normal ?_)))
  (repeat (with_reducible refine G_seq ?_))
  refine G_ret ?_
  (repeat (first | (with_reducible refine R_then_ret ?_) | (with_reducible refine R_block_ret ?_)))
  refine R_ret (.tmp rfl .nil) [] .nil ⟨rfl, rfl⟩
set_option maxHeartbeats 4000000 in
theorem lay_long {ao : Option Addr} {c : Nat} {ring : List KeyD} {x : Int} {w : World} (hl : 100 < ring.length) : FnAt Try.prog 3 [.slice ao ring.length c, .int .i64 x] [] w (Ret fun v N => v = .bool true ∧ N = []) := by
  refine FnAt.intro Try.func3 rfl Try.ntmps3 rfl _ rfl ?_
  (repeat (with_reducible refine G_seq ?_))
  refine G_region ?_
  refine GL_y rfl rfl (Y_assign rfl) ?_
  refine GL_nil ?_
  (repeat (first | (with_reducible refine R_seq ?_) | (with_reducible refine R_block_normal ?_)))
  (repeat (with_reducible refine G_seq ?_))
  refine G_region ?_
  refine GL_y rfl rfl (Y_move rfl) ?_
  refine GL_y rfl rfl (Y_len sl22 rfl) ?_
  refine GL_y rfl rfl (Y_gtrN (b := 100) rfl rfl) ?_
  refine GL_nil ?_
  (repeat (first | (with_reducible refine R_seq ?_) | (with_reducible refine R_block_normal ?_)))
  (repeat (with_reducible refine G_seq ?_))
  refine G_cond_t rfl (by simp; omega) ?_
  (repeat (with_reducible refine G_seq ?_))
  refine G_region ?_
  refine GL_y rfl rfl (Y_assign rfl) ?_
  refine GL_nil ?_
  (repeat (first | (with_reducible refine R_seq ?_) | (with_reducible refine R_block_normal ?_)))
  (repeat (with_reducible refine G_seq ?_))
  refine G_ret ?_
  (repeat (first | (with_reducible refine R_then_ret ?_) | (with_reducible refine R_block_ret ?_)))
  refine R_ret (.tmp rfl .nil) [] .nil ⟨rfl, rfl⟩
set_option maxHeartbeats 4000000 in
theorem lay_bad {ao : Option Addr} {c : Nat} {ring : List KeyD} {x : Int} {w : World} (hs : SlAt w ao (ringL ring)) (hl : ring.length ≤ 100) (hm : mayB ring = false) : FnAt Try.prog 3 [.slice ao ring.length c, .int .i64 x] [] w (Ret fun v N => v = .bool true ∧ N = []) := by
  refine FnAt.intro Try.func3 rfl Try.ntmps3 rfl _ rfl ?_
  (repeat (with_reducible refine G_seq ?_))
  refine G_region ?_
  refine GL_y rfl rfl (Y_assign rfl) ?_
  refine GL_nil ?_
  (repeat (first | (with_reducible refine R_seq ?_) | (with_reducible refine R_block_normal ?_)))
  (repeat (with_reducible refine G_seq ?_))
  refine G_region ?_
  refine GL_y rfl rfl (Y_move rfl) ?_
  refine GL_y rfl rfl (Y_len sl22 rfl) ?_
  refine GL_y rfl rfl (Y_gtrN (b := 100) rfl rfl) ?_
  refine GL_nil ?_
  (repeat (first | (with_reducible refine R_seq ?_) | (with_reducible refine R_block_normal ?_)))
  (repeat (with_reducible refine G_seq ?_))
  refine G_cond_f rfl (by simp; omega) ?_
  (repeat (with_reducible refine G_seq ?_))
  refine G_skip ?_
  (repeat (first | (with_reducible refine R_seq ?_) | (with_reducible refine R_block_normal ?_)))
  (repeat (with_reducible refine G_seq ?_))
  refine G_region ?_
  refine GL_y rfl rfl (Y_move rfl) ?_
  refine GL_call rfl rfl rfl rfl Try.call8 .nil (fun w hw => own_is (hs.keep hw (by simp)) (by omega)) ?_
  rintro _ _ ⟨ao1, c1, rfl, hO⟩
  rw [List.append_nil]
  refine GL_y rfl rfl (Y_assign rfl) ?_
  refine GL_nil ?_
  (repeat (first | (with_reducible refine R_seq ?_) | (with_reducible refine R_block_normal ?_)))
  (repeat (with_reducible refine G_seq ?_))
  refine G_region ?_
  refine GL_y rfl rfl (Y_move rfl) ?_
  refine GL_call rfl rfl rfl rfl Try.call9 .nil (fun w hw => bytes_bad (hO.sl hw) (by omega) hm) ?_
  rintro _ _ ⟨rfl, rfl⟩
  refine GL_y rfl rfl (Y_move rfl) ?_
  refine GL_y rfl rfl (Y_extract rfl rfl) ?_
  refine GL_y rfl rfl (Y_extract rfl rfl) ?_
  refine GL_y rfl rfl (Y_assign rfl) ?_
  refine GL_y rfl rfl (Y_assign rfl) ?_
  refine GL_nil ?_
  (repeat (first | (with_reducible refine R_seq ?_) | (with_reducible refine R_block_normal ?_)))
  (repeat (with_reducible refine G_seq ?_))
  refine G_region ?_
  refine GL_y rfl rfl (Y_move rfl) ?_
  refine GL_y rfl rfl (Y_move rfl) ?_
  refine GL_call rfl rfl rfl rfl Try.call10 .nil (fun w hw => find_bad (hO.sl hw) (by omega) hm) ?_
  rintro _ _ ⟨rfl, rfl⟩
  refine GL_y rfl rfl (Y_move rfl) ?_
  refine GL_y rfl rfl (Y_extract rfl rfl) ?_
  refine GL_y rfl rfl (Y_extract rfl rfl) ?_
  refine GL_w rfl rfl (W_alloc zr28 fun b8 => ?_)
  refine GL_s rfl (S_all rfl rfl ag28 (by rfl) (all_B _) (by first | exact .head | exact (.tail .head) | exact (.tail (.tail .head)) | exact (.tail (.tail (.tail .head))) | exact (.tail (.tail (.tail (.tail .head)))) | exact (.tail (.tail (.tail (.tail (.tail .head))))) | exact (.tail (.tail (.tail (.tail (.tail (.tail .head)))))) | exact (.tail (.tail (.tail (.tail (.tail (.tail (.tail .head))))))) | exact (.tail (.tail (.tail (.tail (.tail (.tail (.tail (.tail .head)))))))) | exact (.tail (.tail (.tail (.tail (.tail (.tail (.tail (.tail (.tail .head))))))))) | exact (.tail (.tail (.tail (.tail (.tail (.tail (.tail (.tail (.tail (.tail .head)))))))))) | exact (.tail (.tail (.tail (.tail (.tail (.tail (.tail (.tail (.tail (.tail (.tail .head))))))))))) | exact (.tail (.tail (.tail (.tail (.tail (.tail (.tail (.tail (.tail (.tail (.tail (.tail .head)))))))))))) | exact (.tail (.tail (.tail (.tail (.tail (.tail (.tail (.tail (.tail (.tail (.tail (.tail (.tail .head)))))))))))))) (by rfl)) ?_
  refine GL_y rfl rfl (Y_assign rfl) ?_
  refine GL_nil ?_
  (repeat (first | (with_reducible refine R_seq ?_) | (with_reducible refine R_block_normal ?_)))
  (repeat (with_reducible refine G_seq ?_))
  refine G_region ?_
  refine GL_y rfl rfl (Y_move rfl) ?_
  refine GL_y rfl rfl (Y_move rfl) ?_
  refine GL_call rfl rfl rfl rfl Try.call11 .nil (fun w hw => revoke_bad (hO.sl hw.tail) (by omega) hm) ?_
  rintro _ _ ⟨rfl, rfl⟩
  refine GL_y rfl rfl (Y_move rfl) ?_
  refine GL_y rfl rfl (Y_extract rfl rfl) ?_
  refine GL_y rfl rfl (Y_extract rfl rfl) ?_
  refine GL_y rfl rfl (Y_assign rfl) ?_
  refine GL_y rfl rfl (Y_assign rfl) ?_
  refine GL_nil ?_
  (repeat (first | (with_reducible refine R_seq ?_) | (with_reducible refine R_block_normal ?_)))
  (repeat (with_reducible refine G_seq ?_))
  refine G_region ?_
  refine GL_y rfl rfl (Y_move rfl) ?_
  refine GL_y rfl rfl (Y_move rfl) ?_
  refine GL_call rfl rfl rfl rfl Try.call12 .nil (fun w hw => same_is (hO.sl hw.tail) (hs.keep hw (by simp)) (by omega)) ?_
  rintro _ _ ⟨rfl, rfl⟩
  refine GL_y rfl rfl (Y_not rfl) ?_
  refine GL_nil ?_
  (repeat (first | (with_reducible refine R_seq ?_) | (with_reducible refine R_block_normal ?_)))
  (repeat (with_reducible refine G_seq ?_))
  refine G_cond_f rfl (by simp) ?_
  (repeat (with_reducible refine G_seq ?_))
  refine G_skip ?_
  (repeat (first | (with_reducible refine R_seq ?_) | (with_reducible refine R_block_normal ?_)))
  (repeat (with_reducible refine G_seq ?_))
  refine G_region ?_
  refine GL_y rfl rfl (Y_move rfl) ?_
  refine GL_call rfl rfl rfl rfl Try.call13 .nil (fun w hw => refMay_is (hs.keep hw (by simp)) (by omega) hm) ?_
  rintro _ _ ⟨rfl, rfl⟩
  refine GL_y rfl rfl (Y_not rfl) ?_
  refine GL_nil ?_
  (repeat (first | (with_reducible refine R_seq ?_) | (with_reducible refine R_block_normal ?_)))
  (repeat (with_reducible refine G_seq ?_))
  refine G_cond_t rfl (by first | rfl | decide | (simp; done) | (simp; omega)) ?_
  (repeat (with_reducible refine G_seq ?_))
  refine G_region ?_
  refine GL_call rfl rfl rfl rfl Try.call14 .nil (fun w hw => awake_is) ?_
  rintro _ _ ⟨rfl, rfl⟩
  refine GL_y rfl rfl (Y_move rfl) ?_
  refine GL_y rfl rfl (Y_move rfl) ?_
  refine GL_y rfl rfl (Y_iop (v := .bool true) rfl rfl rfl) ?_
  refine GL_y rfl rfl (Y_pick rfl rfl rfl rfl) ?_
  refine GL_y rfl rfl (Y_move rfl) ?_
  refine GL_y rfl rfl (Y_move rfl) ?_
  refine GL_y rfl rfl (Y_move rfl) ?_
  refine GL_y rfl rfl (Y_iop (v := .bool true) rfl rfl rfl) ?_
  refine GL_y rfl rfl (Y_pick rfl rfl rfl rfl) ?_
  refine GL_y rfl rfl (Y_move rfl) ?_
  refine GL_y rfl rfl (Y_move rfl) ?_
  refine GL_y rfl rfl (Y_move rfl) ?_
  refine GL_y rfl rfl (Y_iop (v := .bool true) rfl rfl rfl) ?_
  refine GL_y rfl rfl (Y_pick rfl rfl rfl rfl) ?_
  refine GL_y rfl rfl (Y_move rfl) ?_
  refine GL_y rfl rfl (Y_move rfl) ?_
  refine GL_y rfl rfl (Y_len sl24 rfl) ?_
  refine GL_y rfl rfl (Y_move rfl) ?_
  refine GL_y rfl rfl (Y_len sl22 rfl) ?_
  refine GL_y rfl rfl (Y_iop (v := .int .i64 0) rfl rfl rfl) ?_
  refine GL_y rfl rfl (Y_iop (v := .bool true) rfl rfl rfl) ?_
  refine GL_y rfl rfl (Y_pick rfl rfl rfl rfl) ?_
  refine GL_y rfl rfl (Y_move rfl) ?_
  refine GL_y rfl rfl (Y_loadA rfl (by first | exact .head _ | exact .tail _ (.head _) | exact .tail _ (.tail _ (.head _)) | exact .tail _ (.tail _ (.tail _ (.head _))) | exact .tail _ (.tail _ (.tail _ (.tail _ (.head _)))) | exact .tail _ (.tail _ (.tail _ (.tail _ (.tail _ (.head _))))) | exact .tail _ (.tail _ (.tail _ (.tail _ (.tail _ (.tail _ (.head _)))))) | exact .tail _ (.tail _ (.tail _ (.tail _ (.tail _ (.tail _ (.tail _ (.head _))))))) | exact .tail _ (.tail _ (.tail _ (.tail _ (.tail _ (.tail _ (.tail _ (.tail _ (.head _)))))))) | exact .tail _ (.tail _ (.tail _ (.tail _ (.tail _ (.tail _ (.tail _ (.tail _ (.tail _ (.head _))))))))) | exact .tail _ (.tail _ (.tail _ (.tail _ (.tail _ (.tail _ (.tail _ (.tail _ (.tail _ (.tail _ (.head _)))))))))) | exact .tail _ (.tail _ (.tail _ (.tail _ (.tail _ (.tail _ (.tail _ (.tail _ (.tail _ (.tail _ (.tail _ (.head _))))))))))) | exact .tail _ (.tail _ (.tail _ (.tail _ (.tail _ (.tail _ (.tail _ (.tail _ (.tail _ (.tail _ (.tail _ (.tail _ (.head _)))))))))))) | exact .tail _ (.tail _ (.tail _ (.tail _ (.tail _ (.tail _ (.tail _ (.tail _ (.tail _ (.tail _ (.tail _ (.tail _ (.tail _ (.head _)))))))))))))) ag28 (by rfl)) ?_
  refine GL_y rfl rfl (Y_build (vs := []) rfl bz28) ?_
  refine GL_y rfl rfl ((Y_eqB eg28 ti28 rfl rfl (by rfl) (by rfl)).as (.bool true) (by simp)) ?_
  refine GL_y rfl rfl (Y_pick rfl rfl rfl rfl) ?_
  refine GL_y rfl rfl (Y_assign rfl) ?_
  refine GL_nil ?_
  (repeat (first | (with_reducible refine R_seq ?_) | (with_reducible refine R_block_normal ?_)))
  (repeat (with_reducible refine G_seq ?_))
  refine G_ret ?_
  (repeat (first | (with_reducible refine R_then_ret ?_) | (with_reducible refine R_block_ret ?_)))
  refine R_ret (.tmp rfl .nil) [] .nil ⟨by simp [pack], rfl⟩
set_option maxHeartbeats 4000000 in
theorem lay_no {ao : Option Addr} {c : Nat} {ring : List KeyD} {x : Int} {w : World} (hs : SlAt w ao (ringL ring)) (hl : ring.length ≤ 100) (hm : mayB ring = true) (hp : posD ring x = none) : FnAt Try.prog 3 [.slice ao ring.length c, .int .i64 x] [] w (Ret fun v N => v = .bool true ∧ N = []) := by
  refine FnAt.intro Try.func3 rfl Try.ntmps3 rfl _ rfl ?_
  (repeat (with_reducible refine G_seq ?_))
  refine G_region ?_
  refine GL_y rfl rfl (Y_assign rfl) ?_
  refine GL_nil ?_
  (repeat (first | (with_reducible refine R_seq ?_) | (with_reducible refine R_block_normal ?_)))
  (repeat (with_reducible refine G_seq ?_))
  refine G_region ?_
  refine GL_y rfl rfl (Y_move rfl) ?_
  refine GL_y rfl rfl (Y_len sl22 rfl) ?_
  refine GL_y rfl rfl (Y_gtrN (b := 100) rfl rfl) ?_
  refine GL_nil ?_
  (repeat (first | (with_reducible refine R_seq ?_) | (with_reducible refine R_block_normal ?_)))
  (repeat (with_reducible refine G_seq ?_))
  refine G_cond_f rfl (by simp; omega) ?_
  (repeat (with_reducible refine G_seq ?_))
  refine G_skip ?_
  (repeat (first | (with_reducible refine R_seq ?_) | (with_reducible refine R_block_normal ?_)))
  (repeat (with_reducible refine G_seq ?_))
  refine G_region ?_
  refine GL_y rfl rfl (Y_move rfl) ?_
  refine GL_call rfl rfl rfl rfl Try.call8 .nil (fun w hw => own_is (hs.keep hw (by simp)) (by omega)) ?_
  rintro _ _ ⟨ao1, c1, rfl, hO⟩
  rw [List.append_nil]
  refine GL_y rfl rfl (Y_assign rfl) ?_
  refine GL_nil ?_
  (repeat (first | (with_reducible refine R_seq ?_) | (with_reducible refine R_block_normal ?_)))
  (repeat (with_reducible refine G_seq ?_))
  refine G_region ?_
  refine GL_y rfl rfl (Y_move rfl) ?_
  refine GL_call rfl rfl rfl rfl Try.call9 .nil (fun w hw => bytes_ok (hO.sl hw) (by omega) hm) ?_
  rintro _ _ ⟨b21, c21, _, rfl, rfl⟩
  refine GL_y rfl rfl (Y_move rfl) ?_
  refine GL_y rfl rfl (Y_extract rfl rfl) ?_
  refine GL_y rfl rfl (Y_extract rfl rfl) ?_
  refine GL_y rfl rfl (Y_assign rfl) ?_
  refine GL_y rfl rfl (Y_assign rfl) ?_
  refine GL_nil ?_
  (repeat (first | (with_reducible refine R_seq ?_) | (with_reducible refine R_block_normal ?_)))
  (repeat (with_reducible refine G_seq ?_))
  refine G_region ?_
  refine GL_y rfl rfl (Y_move rfl) ?_
  refine GL_y rfl rfl (Y_move rfl) ?_
  refine GL_call rfl rfl rfl rfl Try.call10 .nil (fun w hw => find_no (hO.sl hw.tail) (by omega) hm hp) ?_
  rintro _ _ ⟨rfl, rfl⟩
  refine GL_y rfl rfl (Y_move rfl) ?_
  refine GL_y rfl rfl (Y_extract rfl rfl) ?_
  refine GL_y rfl rfl (Y_extract rfl rfl) ?_
  refine GL_w rfl rfl (W_alloc zr28 fun b8 => ?_)
  refine GL_s rfl (S_all rfl rfl ag28 (by rfl) (all_B _) (by first | exact .head | exact (.tail .head) | exact (.tail (.tail .head)) | exact (.tail (.tail (.tail .head))) | exact (.tail (.tail (.tail (.tail .head)))) | exact (.tail (.tail (.tail (.tail (.tail .head))))) | exact (.tail (.tail (.tail (.tail (.tail (.tail .head)))))) | exact (.tail (.tail (.tail (.tail (.tail (.tail (.tail .head))))))) | exact (.tail (.tail (.tail (.tail (.tail (.tail (.tail (.tail .head)))))))) | exact (.tail (.tail (.tail (.tail (.tail (.tail (.tail (.tail (.tail .head))))))))) | exact (.tail (.tail (.tail (.tail (.tail (.tail (.tail (.tail (.tail (.tail .head)))))))))) | exact (.tail (.tail (.tail (.tail (.tail (.tail (.tail (.tail (.tail (.tail (.tail .head))))))))))) | exact (.tail (.tail (.tail (.tail (.tail (.tail (.tail (.tail (.tail (.tail (.tail (.tail .head)))))))))))) | exact (.tail (.tail (.tail (.tail (.tail (.tail (.tail (.tail (.tail (.tail (.tail (.tail (.tail .head)))))))))))))) (by rfl)) ?_
  refine GL_y rfl rfl (Y_assign rfl) ?_
  refine GL_nil ?_
  (repeat (first | (with_reducible refine R_seq ?_) | (with_reducible refine R_block_normal ?_)))
  (repeat (with_reducible refine G_seq ?_))
  refine G_region ?_
  refine GL_y rfl rfl (Y_move rfl) ?_
  refine GL_y rfl rfl (Y_move rfl) ?_
  refine GL_call rfl rfl rfl rfl Try.call11 .nil (fun w hw => revoke_no (hO.sl hw.tail.tail) (by omega) hm hp) ?_
  rintro _ _ ⟨rfl, rfl⟩
  refine GL_y rfl rfl (Y_move rfl) ?_
  refine GL_y rfl rfl (Y_extract rfl rfl) ?_
  refine GL_y rfl rfl (Y_extract rfl rfl) ?_
  refine GL_y rfl rfl (Y_assign rfl) ?_
  refine GL_y rfl rfl (Y_assign rfl) ?_
  refine GL_nil ?_
  (repeat (first | (with_reducible refine R_seq ?_) | (with_reducible refine R_block_normal ?_)))
  (repeat (with_reducible refine G_seq ?_))
  refine G_region ?_
  refine GL_y rfl rfl (Y_move rfl) ?_
  refine GL_y rfl rfl (Y_move rfl) ?_
  refine GL_call rfl rfl rfl rfl Try.call12 .nil (fun w hw => same_is (hO.sl hw.tail.tail) (hs.keep hw (by simp)) (by omega)) ?_
  rintro _ _ ⟨rfl, rfl⟩
  refine GL_y rfl rfl (Y_not rfl) ?_
  refine GL_nil ?_
  (repeat (first | (with_reducible refine R_seq ?_) | (with_reducible refine R_block_normal ?_)))
  (repeat (with_reducible refine G_seq ?_))
  refine G_cond_f rfl (by simp) ?_
  (repeat (with_reducible refine G_seq ?_))
  refine G_skip ?_
  (repeat (first | (with_reducible refine R_seq ?_) | (with_reducible refine R_block_normal ?_)))
  (repeat (with_reducible refine G_seq ?_))
  refine G_region ?_
  refine GL_y rfl rfl (Y_move rfl) ?_
  refine GL_call rfl rfl rfl rfl Try.call13 .nil (fun w hw => refMay_is (hs.keep hw (by simp)) (by omega) hm) ?_
  rintro _ _ ⟨rfl, rfl⟩
  refine GL_y rfl rfl (Y_not rfl) ?_
  refine GL_nil ?_
  (repeat (first | (with_reducible refine R_seq ?_) | (with_reducible refine R_block_normal ?_)))
  (repeat (with_reducible refine G_seq ?_))
  refine G_cond_f rfl (by first | rfl | decide | (simp; done) | (simp; omega)) ?_
  (repeat (with_reducible refine G_seq ?_))
  refine G_skip ?_
  (repeat (first | (with_reducible refine R_seq ?_) | (with_reducible refine R_block_normal ?_)))
  (repeat (with_reducible refine G_seq ?_))
  refine G_draw [] 10 rfl (by kernel_rfl) ?_
  refine GA_y 0 rfl (by kernel_rfl) (by kernel_rfl) (by kernel_rfl) (fun _ _ _ h => h) rfl rfl rfl (Y_move rfl) ?_
  refine GA_y 1 rfl (by kernel_rfl) (by kernel_rfl) (by kernel_rfl) (fun _ _ _ h => h) rfl rfl rfl (Y_iop (v := .bool false) rfl rfl rfl) ?_
  refine GA_y 2 rfl (by kernel_rfl) (by kernel_rfl) (by kernel_rfl) (fun _ _ _ h => h) rfl rfl rfl (Y_move rfl) ?_
  refine GA_y 3 rfl (by kernel_rfl) (by kernel_rfl) (by kernel_rfl) (fun _ _ _ h => h) rfl rfl rfl (Y_move rfl) ?_
  refine GA_l 4 rfl (by kernel_rfl) (by kernel_rfl) (by kernel_rfl) (fun _ _ _ h => h) rfl rfl rfl rfl (Y_str (bs := bytesD ring) Try.underlying24 Try.underlying5 Try.underlying9 rfl rfl (fun w s => SlAt.mk' (s.cells (k := ⟨b21, 5, c21 * 1, B (bytesD ring), (0, 0)⟩) (by first | exact .head _ | exact .tail _ (.head _) | exact .tail _ (.tail _ (.head _)) | exact .tail _ (.tail _ (.tail _ (.head _))) | exact .tail _ (.tail _ (.tail _ (.tail _ (.head _)))) | exact .tail _ (.tail _ (.tail _ (.tail _ (.tail _ (.head _))))) | exact .tail _ (.tail _ (.tail _ (.tail _ (.tail _ (.tail _ (.head _)))))) | exact .tail _ (.tail _ (.tail _ (.tail _ (.tail _ (.tail _ (.tail _ (.head _))))))) | exact .tail _ (.tail _ (.tail _ (.tail _ (.tail _ (.tail _ (.tail _ (.tail _ (.head _)))))))) | exact .tail _ (.tail _ (.tail _ (.tail _ (.tail _ (.tail _ (.tail _ (.tail _ (.tail _ (.head _))))))))) | exact .tail _ (.tail _ (.tail _ (.tail _ (.tail _ (.tail _ (.tail _ (.tail _ (.tail _ (.tail _ (.head _)))))))))) | exact .tail _ (.tail _ (.tail _ (.tail _ (.tail _ (.tail _ (.tail _ (.tail _ (.tail _ (.tail _ (.tail _ (.head _))))))))))) | exact .tail _ (.tail _ (.tail _ (.tail _ (.tail _ (.tail _ (.tail _ (.tail _ (.tail _ (.tail _ (.tail _ (.tail _ (.head _)))))))))))) | exact .tail _ (.tail _ (.tail _ (.tail _ (.tail _ (.tail _ (.tail _ (.tail _ (.tail _ (.tail _ (.tail _ (.tail _ (.tail _ (.head _))))))))))))))))) ?_
  refine GA_y 5 rfl (by kernel_rfl) (by kernel_rfl) (by kernel_rfl) (fun _ _ _ h => h) rfl rfl rfl (Y_move rfl) ?_
  refine GA_one 6 (by kernel_rfl) ?_
  refine GO_call rfl rfl rfl rfl rfl rfl Try.call15 (fun w hw => refBytes_is (hs.keep hw (by simp)) (by omega) hm) ?_
  rintro _ _ ⟨b77, c77, _, rfl, rfl⟩
  refine GA_l 7 rfl (by kernel_rfl) (by kernel_rfl) (by kernel_rfl) (fun _ _ _ h => h) rfl rfl rfl rfl (Y_str (bs := bytesD ring) Try.underlying24 Try.underlying5 Try.underlying9 rfl rfl (fun w s => SlAt.mk' (s.cells (k := ⟨b77, 5, c77 * 1, B (bytesD ring), (0, 0)⟩) (by first | exact .head _ | exact .tail _ (.head _) | exact .tail _ (.tail _ (.head _)) | exact .tail _ (.tail _ (.tail _ (.head _))) | exact .tail _ (.tail _ (.tail _ (.tail _ (.head _)))) | exact .tail _ (.tail _ (.tail _ (.tail _ (.tail _ (.head _))))) | exact .tail _ (.tail _ (.tail _ (.tail _ (.tail _ (.tail _ (.head _)))))) | exact .tail _ (.tail _ (.tail _ (.tail _ (.tail _ (.tail _ (.tail _ (.head _))))))) | exact .tail _ (.tail _ (.tail _ (.tail _ (.tail _ (.tail _ (.tail _ (.tail _ (.head _)))))))) | exact .tail _ (.tail _ (.tail _ (.tail _ (.tail _ (.tail _ (.tail _ (.tail _ (.tail _ (.head _))))))))) | exact .tail _ (.tail _ (.tail _ (.tail _ (.tail _ (.tail _ (.tail _ (.tail _ (.tail _ (.tail _ (.head _)))))))))) | exact .tail _ (.tail _ (.tail _ (.tail _ (.tail _ (.tail _ (.tail _ (.tail _ (.tail _ (.tail _ (.tail _ (.head _))))))))))) | exact .tail _ (.tail _ (.tail _ (.tail _ (.tail _ (.tail _ (.tail _ (.tail _ (.tail _ (.tail _ (.tail _ (.tail _ (.head _)))))))))))) | exact .tail _ (.tail _ (.tail _ (.tail _ (.tail _ (.tail _ (.tail _ (.tail _ (.tail _ (.tail _ (.tail _ (.tail _ (.tail _ (.head _))))))))))))))))) ?_
  refine GA_y 8 rfl (by kernel_rfl) (by kernel_rfl) (by kernel_rfl) (fun _ _ _ h => h) rfl rfl rfl ((Y_neqstr rfl rfl).as (.bool false) (by simp)) ?_
  refine GA_y 9 rfl (by kernel_rfl) (by kernel_rfl) (by kernel_rfl) (fun _ _ _ h => h) rfl rfl rfl (Y_pick rfl rfl rfl rfl) ?_
  refine GA_done (by kernel_rfl) ?_
  (repeat (first | (with_reducible refine R_seq ?_) | (with_reducible refine R_block_normal ?_)))
  (repeat (with_reducible refine G_seq ?_))
  refine G_cond_f rfl (by first | rfl | decide | (simp; done) | (simp; omega)) ?_
  (repeat (with_reducible refine G_seq ?_))
  refine G_skip ?_
  (repeat (first | (with_reducible refine R_seq ?_) | (with_reducible refine R_block_normal ?_)))
  (repeat (with_reducible refine G_seq ?_))
  refine G_region ?_
  refine GL_y rfl rfl (Y_move rfl) ?_
  refine GL_y rfl rfl (Y_move rfl) ?_
  refine GL_call rfl rfl rfl rfl Try.call16 .nil (fun w hw => refPlace_no (hs.keep hw (by simp)) (by omega) hp) ?_
  rintro _ _ ⟨rfl, rfl⟩
  refine GL_y rfl rfl (Y_assign rfl) ?_
  refine GL_nil ?_
  (repeat (first | (with_reducible refine R_seq ?_) | (with_reducible refine R_block_normal ?_)))
  (repeat (with_reducible refine G_seq ?_))
  refine G_region ?_
  refine GL_y rfl rfl (Y_move rfl) ?_
  refine GL_y rfl rfl (Y_iop (v := .bool true) rfl rfl rfl) ?_
  refine GL_nil ?_
  (repeat (first | (with_reducible refine R_seq ?_) | (with_reducible refine R_block_normal ?_)))
  (repeat (with_reducible refine G_seq ?_))
  refine G_cond_t rfl (by first | rfl | decide | (simp; done) | (simp; omega)) ?_
  (repeat (with_reducible refine G_seq ?_))
  refine G_region ?_
  refine GL_call rfl rfl rfl rfl Try.call14 .nil (fun w hw => awake_is) ?_
  rintro _ _ ⟨rfl, rfl⟩
  refine GL_y rfl rfl (Y_move rfl) ?_
  refine GL_y rfl rfl (Y_move rfl) ?_
  refine GL_y rfl rfl (Y_iop (v := .bool true) rfl rfl rfl) ?_
  refine GL_y rfl rfl (Y_pick rfl rfl rfl rfl) ?_
  refine GL_y rfl rfl (Y_move rfl) ?_
  refine GL_y rfl rfl (Y_move rfl) ?_
  refine GL_y rfl rfl (Y_iop (v := .bool true) rfl rfl rfl) ?_
  refine GL_y rfl rfl (Y_pick rfl rfl rfl rfl) ?_
  refine GL_y rfl rfl (Y_move rfl) ?_
  refine GL_y rfl rfl (Y_loadA rfl (by first | exact .head _ | exact .tail _ (.head _) | exact .tail _ (.tail _ (.head _)) | exact .tail _ (.tail _ (.tail _ (.head _))) | exact .tail _ (.tail _ (.tail _ (.tail _ (.head _)))) | exact .tail _ (.tail _ (.tail _ (.tail _ (.tail _ (.head _))))) | exact .tail _ (.tail _ (.tail _ (.tail _ (.tail _ (.tail _ (.head _)))))) | exact .tail _ (.tail _ (.tail _ (.tail _ (.tail _ (.tail _ (.tail _ (.head _))))))) | exact .tail _ (.tail _ (.tail _ (.tail _ (.tail _ (.tail _ (.tail _ (.tail _ (.head _)))))))) | exact .tail _ (.tail _ (.tail _ (.tail _ (.tail _ (.tail _ (.tail _ (.tail _ (.tail _ (.head _))))))))) | exact .tail _ (.tail _ (.tail _ (.tail _ (.tail _ (.tail _ (.tail _ (.tail _ (.tail _ (.tail _ (.head _)))))))))) | exact .tail _ (.tail _ (.tail _ (.tail _ (.tail _ (.tail _ (.tail _ (.tail _ (.tail _ (.tail _ (.tail _ (.head _))))))))))) | exact .tail _ (.tail _ (.tail _ (.tail _ (.tail _ (.tail _ (.tail _ (.tail _ (.tail _ (.tail _ (.tail _ (.tail _ (.head _)))))))))))) | exact .tail _ (.tail _ (.tail _ (.tail _ (.tail _ (.tail _ (.tail _ (.tail _ (.tail _ (.tail _ (.tail _ (.tail _ (.tail _ (.head _)))))))))))))) ag28 (by rfl)) ?_
  refine GL_y rfl rfl (Y_build (vs := []) rfl bz28) ?_
  refine GL_y rfl rfl ((Y_eqB eg28 ti28 rfl rfl (by rfl) (by rfl)).as (.bool true) (by simp)) ?_
  refine GL_y rfl rfl (Y_pick rfl rfl rfl rfl) ?_
  refine GL_y rfl rfl (Y_move rfl) ?_
  refine GL_y rfl rfl (Y_move rfl) ?_
  refine GL_y rfl rfl (Y_len sl22 rfl) ?_
  refine GL_y rfl rfl (Y_iop (v := .bool true) rfl rfl rfl) ?_
  refine GL_y rfl rfl (Y_pick rfl rfl rfl rfl) ?_
  refine GL_y rfl rfl (Y_assign rfl) ?_
  refine GL_nil ?_
  (repeat (first | (with_reducible refine R_seq ?_) | (with_reducible refine R_block_normal ?_)))
  (repeat (with_reducible refine G_seq ?_))
  refine G_ret ?_
  (repeat (first | (with_reducible refine R_then_ret ?_) | (with_reducible refine R_block_ret ?_)))
  refine R_ret (.tmp rfl .nil) [] .nil ⟨by simp [pack], rfl⟩
set_option maxHeartbeats 4000000 in
theorem lay_rev {ao : Option Addr} {c : Nat} {ring : List KeyD} {x : Int} {w : World} (hs : SlAt w ao (ringL ring)) (hl : ring.length ≤ 100) (hm : mayB ring = true) {i : Nat} {k : KeyD} (hp : posD ring x = some i) (hk : ring[i]? = some k) (hr : k.rev = true) : FnAt Try.prog 3 [.slice ao ring.length c, .int .i64 x] [] w (Ret fun v N => v = .bool true ∧ N = []) := by
  have hi := (List.getElem?_eq_some_iff.1 hk).1
  refine FnAt.intro Try.func3 rfl Try.ntmps3 rfl _ rfl ?_
  (repeat (with_reducible refine G_seq ?_))
  refine G_region ?_
  refine GL_y rfl rfl (Y_assign rfl) ?_
  refine GL_nil ?_
  (repeat (first | (with_reducible refine R_seq ?_) | (with_reducible refine R_block_normal ?_)))
  (repeat (with_reducible refine G_seq ?_))
  refine G_region ?_
  refine GL_y rfl rfl (Y_move rfl) ?_
  refine GL_y rfl rfl (Y_len sl22 rfl) ?_
  refine GL_y rfl rfl (Y_gtrN (b := 100) rfl rfl) ?_
  refine GL_nil ?_
  (repeat (first | (with_reducible refine R_seq ?_) | (with_reducible refine R_block_normal ?_)))
  (repeat (with_reducible refine G_seq ?_))
  refine G_cond_f rfl (by simp; omega) ?_
  (repeat (with_reducible refine G_seq ?_))
  refine G_skip ?_
  (repeat (first | (with_reducible refine R_seq ?_) | (with_reducible refine R_block_normal ?_)))
  (repeat (with_reducible refine G_seq ?_))
  refine G_region ?_
  refine GL_y rfl rfl (Y_move rfl) ?_
  refine GL_call rfl rfl rfl rfl Try.call8 .nil (fun w hw => own_is (hs.keep hw (by simp)) (by omega)) ?_
  rintro _ _ ⟨ao1, c1, rfl, hO⟩
  rw [List.append_nil]
  refine GL_y rfl rfl (Y_assign rfl) ?_
  refine GL_nil ?_
  (repeat (first | (with_reducible refine R_seq ?_) | (with_reducible refine R_block_normal ?_)))
  (repeat (with_reducible refine G_seq ?_))
  refine G_region ?_
  refine GL_y rfl rfl (Y_move rfl) ?_
  refine GL_call rfl rfl rfl rfl Try.call9 .nil (fun w hw => bytes_ok (hO.sl hw) (by omega) hm) ?_
  rintro _ _ ⟨b21, c21, _, rfl, rfl⟩
  refine GL_y rfl rfl (Y_move rfl) ?_
  refine GL_y rfl rfl (Y_extract rfl rfl) ?_
  refine GL_y rfl rfl (Y_extract rfl rfl) ?_
  refine GL_y rfl rfl (Y_assign rfl) ?_
  refine GL_y rfl rfl (Y_assign rfl) ?_
  refine GL_nil ?_
  (repeat (first | (with_reducible refine R_seq ?_) | (with_reducible refine R_block_normal ?_)))
  (repeat (with_reducible refine G_seq ?_))
  refine G_region ?_
  refine GL_y rfl rfl (Y_move rfl) ?_
  refine GL_y rfl rfl (Y_move rfl) ?_
  refine GL_call rfl rfl rfl rfl Try.call10 .nil (fun w hw => find_rev (hO.sl hw.tail) (by omega) hm hp hk hr) ?_
  rintro _ _ ⟨rfl, rfl⟩
  refine GL_y rfl rfl (Y_move rfl) ?_
  refine GL_y rfl rfl (Y_extract rfl rfl) ?_
  refine GL_y rfl rfl (Y_extract rfl rfl) ?_
  refine GL_w rfl rfl (W_alloc zr28 fun b8 => ?_)
  refine GL_s rfl (S_all rfl rfl ag28 (by rfl) (all_B _) (by first | exact .head | exact (.tail .head) | exact (.tail (.tail .head)) | exact (.tail (.tail (.tail .head))) | exact (.tail (.tail (.tail (.tail .head)))) | exact (.tail (.tail (.tail (.tail (.tail .head))))) | exact (.tail (.tail (.tail (.tail (.tail (.tail .head)))))) | exact (.tail (.tail (.tail (.tail (.tail (.tail (.tail .head))))))) | exact (.tail (.tail (.tail (.tail (.tail (.tail (.tail (.tail .head)))))))) | exact (.tail (.tail (.tail (.tail (.tail (.tail (.tail (.tail (.tail .head))))))))) | exact (.tail (.tail (.tail (.tail (.tail (.tail (.tail (.tail (.tail (.tail .head)))))))))) | exact (.tail (.tail (.tail (.tail (.tail (.tail (.tail (.tail (.tail (.tail (.tail .head))))))))))) | exact (.tail (.tail (.tail (.tail (.tail (.tail (.tail (.tail (.tail (.tail (.tail (.tail .head)))))))))))) | exact (.tail (.tail (.tail (.tail (.tail (.tail (.tail (.tail (.tail (.tail (.tail (.tail (.tail .head)))))))))))))) (by rfl)) ?_
  refine GL_y rfl rfl (Y_assign rfl) ?_
  refine GL_nil ?_
  (repeat (first | (with_reducible refine R_seq ?_) | (with_reducible refine R_block_normal ?_)))
  (repeat (with_reducible refine G_seq ?_))
  refine G_region ?_
  refine GL_y rfl rfl (Y_move rfl) ?_
  refine GL_y rfl rfl (Y_move rfl) ?_
  refine GL_call rfl rfl rfl rfl Try.call11 .nil (fun w hw => revoke_at (hO.sl hw.tail.tail) (by omega) hm hp hk) ?_
  rintro _ _ ⟨b33, c33, rfl, rfl⟩
  refine GL_y rfl rfl (Y_move rfl) ?_
  refine GL_y rfl rfl (Y_extract rfl rfl) ?_
  refine GL_y rfl rfl (Y_extract rfl rfl) ?_
  refine GL_y rfl rfl (Y_assign rfl) ?_
  refine GL_y rfl rfl (Y_assign rfl) ?_
  refine GL_nil ?_
  (repeat (first | (with_reducible refine R_seq ?_) | (with_reducible refine R_block_normal ?_)))
  (repeat (with_reducible refine G_seq ?_))
  refine G_region ?_
  refine GL_y rfl rfl (Y_move rfl) ?_
  refine GL_y rfl rfl (Y_move rfl) ?_
  refine GL_call rfl rfl rfl rfl Try.call12 .nil (fun w hw => same_is (hO.sl hw.tail.tail.tail) (hs.keep hw (by simp)) (by omega)) ?_
  rintro _ _ ⟨rfl, rfl⟩
  refine GL_y rfl rfl (Y_not rfl) ?_
  refine GL_nil ?_
  (repeat (first | (with_reducible refine R_seq ?_) | (with_reducible refine R_block_normal ?_)))
  (repeat (with_reducible refine G_seq ?_))
  refine G_cond_f rfl (by simp) ?_
  (repeat (with_reducible refine G_seq ?_))
  refine G_skip ?_
  (repeat (first | (with_reducible refine R_seq ?_) | (with_reducible refine R_block_normal ?_)))
  (repeat (with_reducible refine G_seq ?_))
  refine G_region ?_
  refine GL_y rfl rfl (Y_move rfl) ?_
  refine GL_call rfl rfl rfl rfl Try.call13 .nil (fun w hw => refMay_is (hs.keep hw (by simp)) (by omega) hm) ?_
  rintro _ _ ⟨rfl, rfl⟩
  refine GL_y rfl rfl (Y_not rfl) ?_
  refine GL_nil ?_
  (repeat (first | (with_reducible refine R_seq ?_) | (with_reducible refine R_block_normal ?_)))
  (repeat (with_reducible refine G_seq ?_))
  refine G_cond_f rfl (by first | rfl | decide | (simp; done) | (simp; omega)) ?_
  (repeat (with_reducible refine G_seq ?_))
  refine G_skip ?_
  (repeat (first | (with_reducible refine R_seq ?_) | (with_reducible refine R_block_normal ?_)))
  (repeat (with_reducible refine G_seq ?_))
  refine G_draw [] 10 rfl (by kernel_rfl) ?_
  refine GA_y 0 rfl (by kernel_rfl) (by kernel_rfl) (by kernel_rfl) (fun _ _ _ h => h) rfl rfl rfl (Y_move rfl) ?_
  refine GA_y 1 rfl (by kernel_rfl) (by kernel_rfl) (by kernel_rfl) (fun _ _ _ h => h) rfl rfl rfl (Y_iop (v := .bool false) rfl rfl rfl) ?_
  refine GA_y 2 rfl (by kernel_rfl) (by kernel_rfl) (by kernel_rfl) (fun _ _ _ h => h) rfl rfl rfl (Y_move rfl) ?_
  refine GA_y 3 rfl (by kernel_rfl) (by kernel_rfl) (by kernel_rfl) (fun _ _ _ h => h) rfl rfl rfl (Y_move rfl) ?_
  refine GA_l 4 rfl (by kernel_rfl) (by kernel_rfl) (by kernel_rfl) (fun _ _ _ h => h) rfl rfl rfl rfl (Y_str (bs := bytesD ring) Try.underlying24 Try.underlying5 Try.underlying9 rfl rfl (fun w s => SlAt.mk' (s.cells (k := ⟨b21, 5, c21 * 1, B (bytesD ring), (0, 0)⟩) (by first | exact .head _ | exact .tail _ (.head _) | exact .tail _ (.tail _ (.head _)) | exact .tail _ (.tail _ (.tail _ (.head _))) | exact .tail _ (.tail _ (.tail _ (.tail _ (.head _)))) | exact .tail _ (.tail _ (.tail _ (.tail _ (.tail _ (.head _))))) | exact .tail _ (.tail _ (.tail _ (.tail _ (.tail _ (.tail _ (.head _)))))) | exact .tail _ (.tail _ (.tail _ (.tail _ (.tail _ (.tail _ (.tail _ (.head _))))))) | exact .tail _ (.tail _ (.tail _ (.tail _ (.tail _ (.tail _ (.tail _ (.tail _ (.head _)))))))) | exact .tail _ (.tail _ (.tail _ (.tail _ (.tail _ (.tail _ (.tail _ (.tail _ (.tail _ (.head _))))))))) | exact .tail _ (.tail _ (.tail _ (.tail _ (.tail _ (.tail _ (.tail _ (.tail _ (.tail _ (.tail _ (.head _)))))))))) | exact .tail _ (.tail _ (.tail _ (.tail _ (.tail _ (.tail _ (.tail _ (.tail _ (.tail _ (.tail _ (.tail _ (.head _))))))))))) | exact .tail _ (.tail _ (.tail _ (.tail _ (.tail _ (.tail _ (.tail _ (.tail _ (.tail _ (.tail _ (.tail _ (.tail _ (.head _)))))))))))) | exact .tail _ (.tail _ (.tail _ (.tail _ (.tail _ (.tail _ (.tail _ (.tail _ (.tail _ (.tail _ (.tail _ (.tail _ (.tail _ (.head _))))))))))))))))) ?_
  refine GA_y 5 rfl (by kernel_rfl) (by kernel_rfl) (by kernel_rfl) (fun _ _ _ h => h) rfl rfl rfl (Y_move rfl) ?_
  refine GA_one 6 (by kernel_rfl) ?_
  refine GO_call rfl rfl rfl rfl rfl rfl Try.call15 (fun w hw => refBytes_is (hs.keep hw (by simp)) (by omega) hm) ?_
  rintro _ _ ⟨b77, c77, _, rfl, rfl⟩
  refine GA_l 7 rfl (by kernel_rfl) (by kernel_rfl) (by kernel_rfl) (fun _ _ _ h => h) rfl rfl rfl rfl (Y_str (bs := bytesD ring) Try.underlying24 Try.underlying5 Try.underlying9 rfl rfl (fun w s => SlAt.mk' (s.cells (k := ⟨b77, 5, c77 * 1, B (bytesD ring), (0, 0)⟩) (by first | exact .head _ | exact .tail _ (.head _) | exact .tail _ (.tail _ (.head _)) | exact .tail _ (.tail _ (.tail _ (.head _))) | exact .tail _ (.tail _ (.tail _ (.tail _ (.head _)))) | exact .tail _ (.tail _ (.tail _ (.tail _ (.tail _ (.head _))))) | exact .tail _ (.tail _ (.tail _ (.tail _ (.tail _ (.tail _ (.head _)))))) | exact .tail _ (.tail _ (.tail _ (.tail _ (.tail _ (.tail _ (.tail _ (.head _))))))) | exact .tail _ (.tail _ (.tail _ (.tail _ (.tail _ (.tail _ (.tail _ (.tail _ (.head _)))))))) | exact .tail _ (.tail _ (.tail _ (.tail _ (.tail _ (.tail _ (.tail _ (.tail _ (.tail _ (.head _))))))))) | exact .tail _ (.tail _ (.tail _ (.tail _ (.tail _ (.tail _ (.tail _ (.tail _ (.tail _ (.tail _ (.head _)))))))))) | exact .tail _ (.tail _ (.tail _ (.tail _ (.tail _ (.tail _ (.tail _ (.tail _ (.tail _ (.tail _ (.tail _ (.head _))))))))))) | exact .tail _ (.tail _ (.tail _ (.tail _ (.tail _ (.tail _ (.tail _ (.tail _ (.tail _ (.tail _ (.tail _ (.tail _ (.head _)))))))))))) | exact .tail _ (.tail _ (.tail _ (.tail _ (.tail _ (.tail _ (.tail _ (.tail _ (.tail _ (.tail _ (.tail _ (.tail _ (.tail _ (.head _))))))))))))))))) ?_
  refine GA_y 8 rfl (by kernel_rfl) (by kernel_rfl) (by kernel_rfl) (fun _ _ _ h => h) rfl rfl rfl ((Y_neqstr rfl rfl).as (.bool false) (by simp)) ?_
  refine GA_y 9 rfl (by kernel_rfl) (by kernel_rfl) (by kernel_rfl) (fun _ _ _ h => h) rfl rfl rfl (Y_pick rfl rfl rfl rfl) ?_
  refine GA_done (by kernel_rfl) ?_
  (repeat (first | (with_reducible refine R_seq ?_) | (with_reducible refine R_block_normal ?_)))
  (repeat (with_reducible refine G_seq ?_))
  refine G_cond_f rfl (by first | rfl | decide | (simp; done) | (simp; omega)) ?_
  (repeat (with_reducible refine G_seq ?_))
  refine G_skip ?_
  (repeat (first | (with_reducible refine R_seq ?_) | (with_reducible refine R_block_normal ?_)))
  (repeat (with_reducible refine G_seq ?_))
  refine G_region ?_
  refine GL_y rfl rfl (Y_move rfl) ?_
  refine GL_y rfl rfl (Y_move rfl) ?_
  refine GL_call rfl rfl rfl rfl Try.call16 .nil (fun w hw => refPlace_at (hs.keep hw (by simp)) (by omega) hp) ?_
  rintro _ _ ⟨rfl, rfl⟩
  refine GL_y rfl rfl (Y_assign rfl) ?_
  refine GL_nil ?_
  (repeat (first | (with_reducible refine R_seq ?_) | (with_reducible refine R_block_normal ?_)))
  (repeat (with_reducible refine G_seq ?_))
  refine G_region ?_
  refine GL_y rfl rfl (Y_move rfl) ?_
  refine GL_y rfl rfl (Y_iop (v := .bool false) rfl rfl (by first | (simp [iop]; done) | (simp [iop]; omega))) ?_
  refine GL_nil ?_
  (repeat (first | (with_reducible refine R_seq ?_) | (with_reducible refine R_block_normal ?_)))
  (repeat (with_reducible refine G_seq ?_))
  refine G_cond_f rfl (by first | rfl | decide | (simp; done) | (simp; omega)) ?_
  (repeat (with_reducible refine G_seq ?_))
  refine G_skip ?_
  (repeat (first | (with_reducible refine R_seq ?_) | (with_reducible refine R_block_normal ?_)))
  (repeat (with_reducible refine G_seq ?_))
  refine G_draw [] 30 rfl (by kernel_rfl) ?_
  refine GA_y 0 rfl (by kernel_rfl) (by kernel_rfl) (by kernel_rfl) (fun _ _ _ h => h) rfl rfl rfl (Y_move rfl) ?_
  refine GA_y 1 rfl (by kernel_rfl) (by kernel_rfl) (by kernel_rfl) (fun _ _ _ h => h) rfl rfl rfl (Y_move rfl) ?_
  refine GA_y 2 rfl (by kernel_rfl) (by kernel_rfl) (by kernel_rfl) (fun _ _ _ h => h) rfl rfl rfl (Y_rAt hs rfl rfl hk rfl) ?_
  refine GA_y 3 rfl (by kernel_rfl) (by kernel_rfl) (by kernel_rfl) (fun _ _ _ h => h) rfl rfl rfl (Y_field fd39_2 rfl) ?_
  refine GA_y 4 rfl (by kernel_rfl) (by kernel_rfl) (by kernel_rfl) (fun _ _ _ h => h) rfl rfl rfl ((Y_rRev hs (by simp) rfl hk).as (.bool true) (by rw [hr])) ?_
  refine GA_y 5 rfl (by kernel_rfl) (by kernel_rfl) (by kernel_rfl) (fun _ _ _ h => h) rfl rfl rfl (Y_move rfl) ?_
  refine GA_y 6 rfl (by kernel_rfl) (by kernel_rfl) (by kernel_rfl) (fun _ _ _ h => h) rfl rfl rfl (Y_iop (v := .bool true) rfl rfl rfl) ?_
  refine GA_y 7 rfl (by kernel_rfl) (by kernel_rfl) (by kernel_rfl) (fun _ _ _ h => h) rfl rfl rfl ((Y_bool Try.underlying4 rfl rfl (.inr rfl)).as (.bool false) (by rfl)) ?_
  refine GA_y 8 rfl (by kernel_rfl) (by kernel_rfl) (by kernel_rfl) (fun _ _ _ h => h) rfl rfl rfl (Y_move rfl) ?_
  refine GA_y 9 rfl (by kernel_rfl) (by kernel_rfl) (by kernel_rfl) (fun _ _ _ h => h) rfl rfl rfl (Y_move rfl) ?_
  refine GA_y 10 rfl (by kernel_rfl) (by kernel_rfl) (by kernel_rfl) (fun _ _ _ h => h) rfl rfl rfl (Y_iop (v := .bool true) rfl rfl rfl) ?_
  refine GA_y 11 rfl (by kernel_rfl) (by kernel_rfl) (by kernel_rfl) (fun _ _ _ h => h) rfl rfl rfl (Y_move rfl) ?_
  refine GA_l 12 rfl (by kernel_rfl) (by kernel_rfl) (by kernel_rfl) (fun _ _ _ h => h) rfl rfl rfl rfl (Y_loadA rfl (by first | exact .head _ | exact .tail _ (.head _) | exact .tail _ (.tail _ (.head _)) | exact .tail _ (.tail _ (.tail _ (.head _))) | exact .tail _ (.tail _ (.tail _ (.tail _ (.head _)))) | exact .tail _ (.tail _ (.tail _ (.tail _ (.tail _ (.head _))))) | exact .tail _ (.tail _ (.tail _ (.tail _ (.tail _ (.tail _ (.head _)))))) | exact .tail _ (.tail _ (.tail _ (.tail _ (.tail _ (.tail _ (.tail _ (.head _))))))) | exact .tail _ (.tail _ (.tail _ (.tail _ (.tail _ (.tail _ (.tail _ (.tail _ (.head _)))))))) | exact .tail _ (.tail _ (.tail _ (.tail _ (.tail _ (.tail _ (.tail _ (.tail _ (.tail _ (.head _))))))))) | exact .tail _ (.tail _ (.tail _ (.tail _ (.tail _ (.tail _ (.tail _ (.tail _ (.tail _ (.tail _ (.head _)))))))))) | exact .tail _ (.tail _ (.tail _ (.tail _ (.tail _ (.tail _ (.tail _ (.tail _ (.tail _ (.tail _ (.tail _ (.head _))))))))))) | exact .tail _ (.tail _ (.tail _ (.tail _ (.tail _ (.tail _ (.tail _ (.tail _ (.tail _ (.tail _ (.tail _ (.tail _ (.head _)))))))))))) | exact .tail _ (.tail _ (.tail _ (.tail _ (.tail _ (.tail _ (.tail _ (.tail _ (.tail _ (.tail _ (.tail _ (.tail _ (.tail _ (.head _)))))))))))))) ag28 (by rfl)) ?_
  refine GA_y 13 rfl (by kernel_rfl) (by kernel_rfl) (by kernel_rfl) (fun _ _ _ h => h) rfl rfl rfl (Y_build (vs := []) rfl bz28) ?_
  refine GA_y 14 rfl (by kernel_rfl) (by kernel_rfl) (by kernel_rfl) (fun _ _ _ h => h) rfl rfl rfl ((Y_neqB eg28 ti28 rfl rfl (by rfl) (by rfl)).as (.bool false) (by simp)) ?_
  refine GA_y 15 rfl (by kernel_rfl) (by kernel_rfl) (by kernel_rfl) (fun _ _ _ h => h) rfl rfl rfl (Y_pick rfl rfl rfl rfl) ?_
  refine GA_y 16 rfl (by kernel_rfl) (by kernel_rfl) (by kernel_rfl) (fun _ _ _ h => h) rfl rfl rfl (Y_pick rfl rfl rfl rfl) ?_
  refine GA_y 17 rfl (by kernel_rfl) (by kernel_rfl) (by kernel_rfl) (fun _ _ _ h => h) rfl rfl rfl (Y_move rfl) ?_
  refine GA_y 18 rfl (by kernel_rfl) (by kernel_rfl) (by kernel_rfl) (fun _ _ _ h => h) rfl rfl rfl (Y_move rfl) ?_
  refine GA_y 19 rfl (by kernel_rfl) (by kernel_rfl) (by kernel_rfl) (fun _ _ _ h => h) rfl rfl rfl (Y_iop (v := .bool false) rfl rfl rfl) ?_
  refine GA_y 20 rfl (by kernel_rfl) (by kernel_rfl) (by kernel_rfl) (fun _ _ _ h => h) rfl rfl rfl (Y_move rfl) ?_
  refine GA_skip 21 rfl (by kernel_rfl) (by kernel_rfl) (by kernel_rfl) (fun _ _ _ h => h) rfl rfl rfl ?_
  refine GA_skip 22 rfl (by kernel_rfl) (by kernel_rfl) (by kernel_rfl) (fun _ _ _ h => h) rfl rfl rfl ?_
  refine GA_skip 23 rfl (by kernel_rfl) (by kernel_rfl) (by kernel_rfl) (fun _ _ _ h => h) rfl rfl rfl ?_
  refine GA_skip 24 rfl (by kernel_rfl) (by kernel_rfl) (by kernel_rfl) (fun _ _ _ h => h) rfl rfl rfl ?_
  refine GA_skip 25 rfl (by kernel_rfl) (by kernel_rfl) (by kernel_rfl) (fun _ _ _ h => h) rfl rfl rfl ?_
  refine GA_skip 26 rfl (by kernel_rfl) (by kernel_rfl) (by kernel_rfl) (fun _ _ _ h => h) rfl rfl rfl ?_
  refine GA_skip 27 rfl (by kernel_rfl) (by kernel_rfl) (by kernel_rfl) (fun _ _ _ h => h) rfl rfl rfl ?_
  refine GA_y 28 rfl (by kernel_rfl) (by kernel_rfl) (by kernel_rfl) (fun _ _ _ h => h) rfl rfl rfl (Y_pick rfl rfl rfl rfl) ?_
  refine GA_y 29 rfl (by kernel_rfl) (by kernel_rfl) (by kernel_rfl) (fun _ _ _ h => h) rfl rfl rfl (Y_pick rfl rfl rfl rfl) ?_
  refine GA_done (by kernel_rfl) ?_
  (repeat (first | (with_reducible refine R_seq ?_) | (with_reducible refine R_block_normal ?_)))
  (repeat (with_reducible refine G_seq ?_))
  refine G_cond_f rfl (by first | rfl | decide | (simp; done) | (simp; omega)) ?_
  (repeat (with_reducible refine G_seq ?_))
  refine G_skip ?_
  (repeat (first | (with_reducible refine R_seq ?_) | (with_reducible refine R_block_normal ?_)))
  (repeat (with_reducible refine G_seq ?_))
  refine G_region ?_
  refine GL_y rfl rfl (Y_move rfl) ?_
  refine GL_call rfl rfl rfl rfl Try.call8 .nil (fun w hw => own_is (hs.keep hw (by simp)) (by omega)) ?_
  rintro _ _ ⟨ao2, c2, rfl, ⟨_, _, _, h⟩ | ⟨b136, rfl, rfl⟩⟩
  · subst h; simp at hk
  refine GL_y rfl rfl (Y_assign rfl) ?_
  refine GL_nil ?_
  (repeat (first | (with_reducible refine R_seq ?_) | (with_reducible refine R_block_normal ?_)))
  (repeat (with_reducible refine G_seq ?_))
  refine G_region ?_
  refine GL_y rfl rfl (Y_move rfl) ?_
  refine GL_y rfl rfl (Y_move rfl) ?_
  refine GL_y rfl rfl (Y_idxS (j := i) sl22 rfl rfl rfl hi) ?_
  refine GL_y rfl rfl (Y_field fd39_2 rfl) ?_
  refine GL_s rfl (S_sc rfl sc4 rfl rfl (by first | exact .head | exact (.tail .head) | exact (.tail (.tail .head)) | exact (.tail (.tail (.tail .head))) | exact (.tail (.tail (.tail (.tail .head)))) | exact (.tail (.tail (.tail (.tail (.tail .head))))) | exact (.tail (.tail (.tail (.tail (.tail (.tail .head)))))) | exact (.tail (.tail (.tail (.tail (.tail (.tail (.tail .head))))))) | exact (.tail (.tail (.tail (.tail (.tail (.tail (.tail (.tail .head)))))))) | exact (.tail (.tail (.tail (.tail (.tail (.tail (.tail (.tail (.tail .head))))))))) | exact (.tail (.tail (.tail (.tail (.tail (.tail (.tail (.tail (.tail (.tail .head)))))))))) | exact (.tail (.tail (.tail (.tail (.tail (.tail (.tail (.tail (.tail (.tail (.tail .head))))))))))) | exact (.tail (.tail (.tail (.tail (.tail (.tail (.tail (.tail (.tail (.tail (.tail (.tail .head)))))))))))) | exact (.tail (.tail (.tail (.tail (.tail (.tail (.tail (.tail (.tail (.tail (.tail (.tail (.tail .head)))))))))))))) (setrev_ok hk)) ?_
  refine GL_nil ?_
  (repeat (first | (with_reducible refine R_seq ?_) | (with_reducible refine R_block_normal ?_)))
  (repeat (with_reducible refine G_seq ?_))
  refine G_region ?_
  refine GL_call rfl rfl rfl rfl Try.call14 .nil (fun w hw => awake_is) ?_
  rintro _ _ ⟨rfl, rfl⟩
  refine GL_y rfl rfl (Y_move rfl) ?_
  refine GL_y rfl rfl (Y_move rfl) ?_
  refine GL_y rfl rfl (Y_iop (v := .bool true) rfl rfl rfl) ?_
  refine GL_y rfl rfl (Y_pick rfl rfl rfl rfl) ?_
  refine GL_y rfl rfl (Y_move rfl) ?_
  refine GL_y rfl rfl (Y_move rfl) ?_
  refine GL_y rfl rfl (Y_move rfl) ?_
  refine GL_call rfl rfl rfl rfl Try.call12 .nil (fun w hw => same_is' (r1 := ring.set i { k with rev := true }) (r2 := ring.set i { k with rev := true }) (SlAt.mk' (hw.cells (k := ⟨b33, 39, c33 * 34, ringL (ring.set i { k with rev := true }), (0, 0)⟩) (by first | exact .head _ | exact .tail _ (.head _) | exact .tail _ (.tail _ (.head _)) | exact .tail _ (.tail _ (.tail _ (.head _))) | exact .tail _ (.tail _ (.tail _ (.tail _ (.head _)))) | exact .tail _ (.tail _ (.tail _ (.tail _ (.tail _ (.head _))))) | exact .tail _ (.tail _ (.tail _ (.tail _ (.tail _ (.tail _ (.head _)))))) | exact .tail _ (.tail _ (.tail _ (.tail _ (.tail _ (.tail _ (.tail _ (.head _))))))) | exact .tail _ (.tail _ (.tail _ (.tail _ (.tail _ (.tail _ (.tail _ (.tail _ (.head _)))))))) | exact .tail _ (.tail _ (.tail _ (.tail _ (.tail _ (.tail _ (.tail _ (.tail _ (.tail _ (.head _))))))))) | exact .tail _ (.tail _ (.tail _ (.tail _ (.tail _ (.tail _ (.tail _ (.tail _ (.tail _ (.tail _ (.head _)))))))))) | exact .tail _ (.tail _ (.tail _ (.tail _ (.tail _ (.tail _ (.tail _ (.tail _ (.tail _ (.tail _ (.tail _ (.head _))))))))))) | exact .tail _ (.tail _ (.tail _ (.tail _ (.tail _ (.tail _ (.tail _ (.tail _ (.tail _ (.tail _ (.tail _ (.tail _ (.head _)))))))))))) | exact .tail _ (.tail _ (.tail _ (.tail _ (.tail _ (.tail _ (.tail _ (.tail _ (.tail _ (.tail _ (.tail _ (.tail _ (.tail _ (.head _)))))))))))))))) (SlAt.mk' (hw.cells (k := ⟨b136, 39, c2 * 34, ringL (ring.set i { k with rev := true }), (0, 0)⟩) (by first | exact .head _ | exact .tail _ (.head _) | exact .tail _ (.tail _ (.head _)) | exact .tail _ (.tail _ (.tail _ (.head _))) | exact .tail _ (.tail _ (.tail _ (.tail _ (.head _)))) | exact .tail _ (.tail _ (.tail _ (.tail _ (.tail _ (.head _))))) | exact .tail _ (.tail _ (.tail _ (.tail _ (.tail _ (.tail _ (.head _)))))) | exact .tail _ (.tail _ (.tail _ (.tail _ (.tail _ (.tail _ (.tail _ (.head _))))))) | exact .tail _ (.tail _ (.tail _ (.tail _ (.tail _ (.tail _ (.tail _ (.tail _ (.head _)))))))) | exact .tail _ (.tail _ (.tail _ (.tail _ (.tail _ (.tail _ (.tail _ (.tail _ (.tail _ (.head _))))))))) | exact .tail _ (.tail _ (.tail _ (.tail _ (.tail _ (.tail _ (.tail _ (.tail _ (.tail _ (.tail _ (.head _)))))))))) | exact .tail _ (.tail _ (.tail _ (.tail _ (.tail _ (.tail _ (.tail _ (.tail _ (.tail _ (.tail _ (.tail _ (.head _))))))))))) | exact .tail _ (.tail _ (.tail _ (.tail _ (.tail _ (.tail _ (.tail _ (.tail _ (.tail _ (.tail _ (.tail _ (.tail _ (.head _)))))))))))) | exact .tail _ (.tail _ (.tail _ (.tail _ (.tail _ (.tail _ (.tail _ (.tail _ (.tail _ (.tail _ (.tail _ (.tail _ (.tail _ (.head _)))))))))))))))) (by simp; omega) (by simp) (by simp)) ?_
  rintro _ _ ⟨rfl, rfl⟩
  refine GL_y rfl rfl (Y_pick rfl rfl rfl rfl) ?_
  refine GL_y rfl rfl (Y_assign rfl) ?_
  refine GL_nil ?_
  (repeat (first | (with_reducible refine R_seq ?_) | (with_reducible refine R_block_normal ?_)))
  (repeat (with_reducible refine G_seq ?_))
  refine G_ret ?_
  (repeat (first | (with_reducible refine R_then_ret ?_) | (with_reducible refine R_block_ret ?_)))
  refine R_ret (.tmp rfl .nil) [] .nil ⟨by simp [pack], rfl⟩
set_option maxHeartbeats 4000000 in
theorem lay_ok {ao : Option Addr} {c : Nat} {ring : List KeyD} {x : Int} {w : World} (hs : SlAt w ao (ringL ring)) (hl : ring.length ≤ 100) (hm : mayB ring = true) {i : Nat} {k : KeyD} (hp : posD ring x = some i) (hk : ring[i]? = some k) (hr : k.rev = false) : FnAt Try.prog 3 [.slice ao ring.length c, .int .i64 x] [] w (Ret fun v N => v = .bool true ∧ N = []) := by
  have hi := (List.getElem?_eq_some_iff.1 hk).1
  refine FnAt.intro Try.func3 rfl Try.ntmps3 rfl _ rfl ?_
  (repeat (with_reducible refine G_seq ?_))
  refine G_region ?_
  refine GL_y rfl rfl (Y_assign rfl) ?_
  refine GL_nil ?_
  (repeat (first | (with_reducible refine R_seq ?_) | (with_reducible refine R_block_normal ?_)))
  (repeat (with_reducible refine G_seq ?_))
  refine G_region ?_
  refine GL_y rfl rfl (Y_move rfl) ?_
  refine GL_y rfl rfl (Y_len sl22 rfl) ?_
  refine GL_y rfl rfl (Y_gtrN (b := 100) rfl rfl) ?_
  refine GL_nil ?_
  (repeat (first | (with_reducible refine R_seq ?_) | (with_reducible refine R_block_normal ?_)))
  (repeat (with_reducible refine G_seq ?_))
  refine G_cond_f rfl (by simp; omega) ?_
  (repeat (with_reducible refine G_seq ?_))
  refine G_skip ?_
  (repeat (first | (with_reducible refine R_seq ?_) | (with_reducible refine R_block_normal ?_)))
  (repeat (with_reducible refine G_seq ?_))
  refine G_region ?_
  refine GL_y rfl rfl (Y_move rfl) ?_
  refine GL_call rfl rfl rfl rfl Try.call8 .nil (fun w hw => own_is (hs.keep hw (by simp)) (by omega)) ?_
  rintro _ _ ⟨ao1, c1, rfl, hO⟩
  rw [List.append_nil]
  refine GL_y rfl rfl (Y_assign rfl) ?_
  refine GL_nil ?_
  (repeat (first | (with_reducible refine R_seq ?_) | (with_reducible refine R_block_normal ?_)))
  (repeat (with_reducible refine G_seq ?_))
  refine G_region ?_
  refine GL_y rfl rfl (Y_move rfl) ?_
  refine GL_call rfl rfl rfl rfl Try.call9 .nil (fun w hw => bytes_ok (hO.sl hw) (by omega) hm) ?_
  rintro _ _ ⟨b21, c21, _, rfl, rfl⟩
  refine GL_y rfl rfl (Y_move rfl) ?_
  refine GL_y rfl rfl (Y_extract rfl rfl) ?_
  refine GL_y rfl rfl (Y_extract rfl rfl) ?_
  refine GL_y rfl rfl (Y_assign rfl) ?_
  refine GL_y rfl rfl (Y_assign rfl) ?_
  refine GL_nil ?_
  (repeat (first | (with_reducible refine R_seq ?_) | (with_reducible refine R_block_normal ?_)))
  (repeat (with_reducible refine G_seq ?_))
  refine G_region ?_
  refine GL_y rfl rfl (Y_move rfl) ?_
  refine GL_y rfl rfl (Y_move rfl) ?_
  refine GL_call rfl rfl rfl rfl Try.call10 .nil (fun w hw => find_ok (hO.sl hw.tail) (by omega) hm hp hk hr) ?_
  rintro _ _ ⟨rfl, rfl⟩
  refine GL_y rfl rfl (Y_move rfl) ?_
  refine GL_y rfl rfl (Y_extract rfl rfl) ?_
  refine GL_y rfl rfl (Y_extract rfl rfl) ?_
  refine GL_w rfl rfl (W_alloc zr28 fun b8 => ?_)
  refine GL_s rfl (S_all rfl rfl ag28 (by rw [len_B, k.len]) (all_B _) (by first | exact .head | exact (.tail .head) | exact (.tail (.tail .head)) | exact (.tail (.tail (.tail .head))) | exact (.tail (.tail (.tail (.tail .head)))) | exact (.tail (.tail (.tail (.tail (.tail .head))))) | exact (.tail (.tail (.tail (.tail (.tail (.tail .head)))))) | exact (.tail (.tail (.tail (.tail (.tail (.tail (.tail .head))))))) | exact (.tail (.tail (.tail (.tail (.tail (.tail (.tail (.tail .head)))))))) | exact (.tail (.tail (.tail (.tail (.tail (.tail (.tail (.tail (.tail .head))))))))) | exact (.tail (.tail (.tail (.tail (.tail (.tail (.tail (.tail (.tail (.tail .head)))))))))) | exact (.tail (.tail (.tail (.tail (.tail (.tail (.tail (.tail (.tail (.tail (.tail .head))))))))))) | exact (.tail (.tail (.tail (.tail (.tail (.tail (.tail (.tail (.tail (.tail (.tail (.tail .head)))))))))))) | exact (.tail (.tail (.tail (.tail (.tail (.tail (.tail (.tail (.tail (.tail (.tail (.tail (.tail .head)))))))))))))) (by rfl)) ?_
  refine GL_y rfl rfl (Y_assign rfl) ?_
  refine GL_nil ?_
  (repeat (first | (with_reducible refine R_seq ?_) | (with_reducible refine R_block_normal ?_)))
  (repeat (with_reducible refine G_seq ?_))
  refine G_region ?_
  refine GL_y rfl rfl (Y_move rfl) ?_
  refine GL_y rfl rfl (Y_move rfl) ?_
  refine GL_call rfl rfl rfl rfl Try.call11 .nil (fun w hw => revoke_at (hO.sl hw.tail.tail) (by omega) hm hp hk) ?_
  rintro _ _ ⟨b33, c33, rfl, rfl⟩
  refine GL_y rfl rfl (Y_move rfl) ?_
  refine GL_y rfl rfl (Y_extract rfl rfl) ?_
  refine GL_y rfl rfl (Y_extract rfl rfl) ?_
  refine GL_y rfl rfl (Y_assign rfl) ?_
  refine GL_y rfl rfl (Y_assign rfl) ?_
  refine GL_nil ?_
  (repeat (first | (with_reducible refine R_seq ?_) | (with_reducible refine R_block_normal ?_)))
  (repeat (with_reducible refine G_seq ?_))
  refine G_region ?_
  refine GL_y rfl rfl (Y_move rfl) ?_
  refine GL_y rfl rfl (Y_move rfl) ?_
  refine GL_call rfl rfl rfl rfl Try.call12 .nil (fun w hw => same_is (hO.sl hw.tail.tail.tail) (hs.keep hw (by simp)) (by omega)) ?_
  rintro _ _ ⟨rfl, rfl⟩
  refine GL_y rfl rfl (Y_not rfl) ?_
  refine GL_nil ?_
  (repeat (first | (with_reducible refine R_seq ?_) | (with_reducible refine R_block_normal ?_)))
  (repeat (with_reducible refine G_seq ?_))
  refine G_cond_f rfl (by simp) ?_
  (repeat (with_reducible refine G_seq ?_))
  refine G_skip ?_
  (repeat (first | (with_reducible refine R_seq ?_) | (with_reducible refine R_block_normal ?_)))
  (repeat (with_reducible refine G_seq ?_))
  refine G_region ?_
  refine GL_y rfl rfl (Y_move rfl) ?_
  refine GL_call rfl rfl rfl rfl Try.call13 .nil (fun w hw => refMay_is (hs.keep hw (by simp)) (by omega) hm) ?_
  rintro _ _ ⟨rfl, rfl⟩
  refine GL_y rfl rfl (Y_not rfl) ?_
  refine GL_nil ?_
  (repeat (first | (with_reducible refine R_seq ?_) | (with_reducible refine R_block_normal ?_)))
  (repeat (with_reducible refine G_seq ?_))
  refine G_cond_f rfl (by first | rfl | decide | (simp; done) | (simp; omega)) ?_
  (repeat (with_reducible refine G_seq ?_))
  refine G_skip ?_
  (repeat (first | (with_reducible refine R_seq ?_) | (with_reducible refine R_block_normal ?_)))
  (repeat (with_reducible refine G_seq ?_))
  refine G_draw [] 10 rfl (by kernel_rfl) ?_
  refine GA_y 0 rfl (by kernel_rfl) (by kernel_rfl) (by kernel_rfl) (fun _ _ _ h => h) rfl rfl rfl (Y_move rfl) ?_
  refine GA_y 1 rfl (by kernel_rfl) (by kernel_rfl) (by kernel_rfl) (fun _ _ _ h => h) rfl rfl rfl (Y_iop (v := .bool false) rfl rfl rfl) ?_
  refine GA_y 2 rfl (by kernel_rfl) (by kernel_rfl) (by kernel_rfl) (fun _ _ _ h => h) rfl rfl rfl (Y_move rfl) ?_
  refine GA_y 3 rfl (by kernel_rfl) (by kernel_rfl) (by kernel_rfl) (fun _ _ _ h => h) rfl rfl rfl (Y_move rfl) ?_
  refine GA_l 4 rfl (by kernel_rfl) (by kernel_rfl) (by kernel_rfl) (fun _ _ _ h => h) rfl rfl rfl rfl (Y_str (bs := bytesD ring) Try.underlying24 Try.underlying5 Try.underlying9 rfl rfl (fun w s => SlAt.mk' (s.cells (k := ⟨b21, 5, c21 * 1, B (bytesD ring), (0, 0)⟩) (by first | exact .head _ | exact .tail _ (.head _) | exact .tail _ (.tail _ (.head _)) | exact .tail _ (.tail _ (.tail _ (.head _))) | exact .tail _ (.tail _ (.tail _ (.tail _ (.head _)))) | exact .tail _ (.tail _ (.tail _ (.tail _ (.tail _ (.head _))))) | exact .tail _ (.tail _ (.tail _ (.tail _ (.tail _ (.tail _ (.head _)))))) | exact .tail _ (.tail _ (.tail _ (.tail _ (.tail _ (.tail _ (.tail _ (.head _))))))) | exact .tail _ (.tail _ (.tail _ (.tail _ (.tail _ (.tail _ (.tail _ (.tail _ (.head _)))))))) | exact .tail _ (.tail _ (.tail _ (.tail _ (.tail _ (.tail _ (.tail _ (.tail _ (.tail _ (.head _))))))))) | exact .tail _ (.tail _ (.tail _ (.tail _ (.tail _ (.tail _ (.tail _ (.tail _ (.tail _ (.tail _ (.head _)))))))))) | exact .tail _ (.tail _ (.tail _ (.tail _ (.tail _ (.tail _ (.tail _ (.tail _ (.tail _ (.tail _ (.tail _ (.head _))))))))))) | exact .tail _ (.tail _ (.tail _ (.tail _ (.tail _ (.tail _ (.tail _ (.tail _ (.tail _ (.tail _ (.tail _ (.tail _ (.head _)))))))))))) | exact .tail _ (.tail _ (.tail _ (.tail _ (.tail _ (.tail _ (.tail _ (.tail _ (.tail _ (.tail _ (.tail _ (.tail _ (.tail _ (.head _))))))))))))))))) ?_
  refine GA_y 5 rfl (by kernel_rfl) (by kernel_rfl) (by kernel_rfl) (fun _ _ _ h => h) rfl rfl rfl (Y_move rfl) ?_
  refine GA_one 6 (by kernel_rfl) ?_
  refine GO_call rfl rfl rfl rfl rfl rfl Try.call15 (fun w hw => refBytes_is (hs.keep hw (by simp)) (by omega) hm) ?_
  rintro _ _ ⟨b77, c77, _, rfl, rfl⟩
  refine GA_l 7 rfl (by kernel_rfl) (by kernel_rfl) (by kernel_rfl) (fun _ _ _ h => h) rfl rfl rfl rfl (Y_str (bs := bytesD ring) Try.underlying24 Try.underlying5 Try.underlying9 rfl rfl (fun w s => SlAt.mk' (s.cells (k := ⟨b77, 5, c77 * 1, B (bytesD ring), (0, 0)⟩) (by first | exact .head _ | exact .tail _ (.head _) | exact .tail _ (.tail _ (.head _)) | exact .tail _ (.tail _ (.tail _ (.head _))) | exact .tail _ (.tail _ (.tail _ (.tail _ (.head _)))) | exact .tail _ (.tail _ (.tail _ (.tail _ (.tail _ (.head _))))) | exact .tail _ (.tail _ (.tail _ (.tail _ (.tail _ (.tail _ (.head _)))))) | exact .tail _ (.tail _ (.tail _ (.tail _ (.tail _ (.tail _ (.tail _ (.head _))))))) | exact .tail _ (.tail _ (.tail _ (.tail _ (.tail _ (.tail _ (.tail _ (.tail _ (.head _)))))))) | exact .tail _ (.tail _ (.tail _ (.tail _ (.tail _ (.tail _ (.tail _ (.tail _ (.tail _ (.head _))))))))) | exact .tail _ (.tail _ (.tail _ (.tail _ (.tail _ (.tail _ (.tail _ (.tail _ (.tail _ (.tail _ (.head _)))))))))) | exact .tail _ (.tail _ (.tail _ (.tail _ (.tail _ (.tail _ (.tail _ (.tail _ (.tail _ (.tail _ (.tail _ (.head _))))))))))) | exact .tail _ (.tail _ (.tail _ (.tail _ (.tail _ (.tail _ (.tail _ (.tail _ (.tail _ (.tail _ (.tail _ (.tail _ (.head _)))))))))))) | exact .tail _ (.tail _ (.tail _ (.tail _ (.tail _ (.tail _ (.tail _ (.tail _ (.tail _ (.tail _ (.tail _ (.tail _ (.tail _ (.head _))))))))))))))))) ?_
  refine GA_y 8 rfl (by kernel_rfl) (by kernel_rfl) (by kernel_rfl) (fun _ _ _ h => h) rfl rfl rfl ((Y_neqstr rfl rfl).as (.bool false) (by simp)) ?_
  refine GA_y 9 rfl (by kernel_rfl) (by kernel_rfl) (by kernel_rfl) (fun _ _ _ h => h) rfl rfl rfl (Y_pick rfl rfl rfl rfl) ?_
  refine GA_done (by kernel_rfl) ?_
  (repeat (first | (with_reducible refine R_seq ?_) | (with_reducible refine R_block_normal ?_)))
  (repeat (with_reducible refine G_seq ?_))
  refine G_cond_f rfl (by first | rfl | decide | (simp; done) | (simp; omega)) ?_
  (repeat (with_reducible refine G_seq ?_))
  refine G_skip ?_
  (repeat (first | (with_reducible refine R_seq ?_) | (with_reducible refine R_block_normal ?_)))
  (repeat (with_reducible refine G_seq ?_))
  refine G_region ?_
  refine GL_y rfl rfl (Y_move rfl) ?_
  refine GL_y rfl rfl (Y_move rfl) ?_
  refine GL_call rfl rfl rfl rfl Try.call16 .nil (fun w hw => refPlace_at (hs.keep hw (by simp)) (by omega) hp) ?_
  rintro _ _ ⟨rfl, rfl⟩
  refine GL_y rfl rfl (Y_assign rfl) ?_
  refine GL_nil ?_
  (repeat (first | (with_reducible refine R_seq ?_) | (with_reducible refine R_block_normal ?_)))
  (repeat (with_reducible refine G_seq ?_))
  refine G_region ?_
  refine GL_y rfl rfl (Y_move rfl) ?_
  refine GL_y rfl rfl (Y_iop (v := .bool false) rfl rfl (by first | (simp [iop]; done) | (simp [iop]; omega))) ?_
  refine GL_nil ?_
  (repeat (first | (with_reducible refine R_seq ?_) | (with_reducible refine R_block_normal ?_)))
  (repeat (with_reducible refine G_seq ?_))
  refine G_cond_f rfl (by first | rfl | decide | (simp; done) | (simp; omega)) ?_
  (repeat (with_reducible refine G_seq ?_))
  refine G_skip ?_
  (repeat (first | (with_reducible refine R_seq ?_) | (with_reducible refine R_block_normal ?_)))
  (repeat (with_reducible refine G_seq ?_))
  refine G_draw [] 30 rfl (by kernel_rfl) ?_
  refine GA_y 0 rfl (by kernel_rfl) (by kernel_rfl) (by kernel_rfl) (fun _ _ _ h => h) rfl rfl rfl (Y_move rfl) ?_
  refine GA_y 1 rfl (by kernel_rfl) (by kernel_rfl) (by kernel_rfl) (fun _ _ _ h => h) rfl rfl rfl (Y_move rfl) ?_
  refine GA_y 2 rfl (by kernel_rfl) (by kernel_rfl) (by kernel_rfl) (fun _ _ _ h => h) rfl rfl rfl (Y_rAt hs rfl rfl hk rfl) ?_
  refine GA_y 3 rfl (by kernel_rfl) (by kernel_rfl) (by kernel_rfl) (fun _ _ _ h => h) rfl rfl rfl (Y_field fd39_2 rfl) ?_
  refine GA_y 4 rfl (by kernel_rfl) (by kernel_rfl) (by kernel_rfl) (fun _ _ _ h => h) rfl rfl rfl ((Y_rRev hs (by simp) rfl hk).as (.bool false) (by rw [hr])) ?_
  refine GA_y 5 rfl (by kernel_rfl) (by kernel_rfl) (by kernel_rfl) (fun _ _ _ h => h) rfl rfl rfl (Y_move rfl) ?_
  refine GA_y 6 rfl (by kernel_rfl) (by kernel_rfl) (by kernel_rfl) (fun _ _ _ h => h) rfl rfl rfl (Y_iop (v := .bool false) rfl rfl rfl) ?_
  refine GA_y 7 rfl (by kernel_rfl) (by kernel_rfl) (by kernel_rfl) (fun _ _ _ h => h) rfl rfl rfl ((Y_bool Try.underlying4 rfl rfl (.inr rfl)).as (.bool false) (by rfl)) ?_
  refine GA_y 8 rfl (by kernel_rfl) (by kernel_rfl) (by kernel_rfl) (fun _ _ _ h => h) rfl rfl rfl (Y_move rfl) ?_
  refine GA_y 9 rfl (by kernel_rfl) (by kernel_rfl) (by kernel_rfl) (fun _ _ _ h => h) rfl rfl rfl (Y_move rfl) ?_
  refine GA_y 10 rfl (by kernel_rfl) (by kernel_rfl) (by kernel_rfl) (fun _ _ _ h => h) rfl rfl rfl (Y_iop (v := .bool false) rfl rfl rfl) ?_
  refine GA_y 11 rfl (by kernel_rfl) (by kernel_rfl) (by kernel_rfl) (fun _ _ _ h => h) rfl rfl rfl (Y_move rfl) ?_
  refine GA_skip 12 rfl (by kernel_rfl) (by kernel_rfl) (by kernel_rfl) (fun _ _ _ h => h) rfl rfl rfl ?_
  refine GA_skip 13 rfl (by kernel_rfl) (by kernel_rfl) (by kernel_rfl) (fun _ _ _ h => h) rfl rfl rfl ?_
  refine GA_skip 14 rfl (by kernel_rfl) (by kernel_rfl) (by kernel_rfl) (fun _ _ _ h => h) rfl rfl rfl ?_
  refine GA_y 15 rfl (by kernel_rfl) (by kernel_rfl) (by kernel_rfl) (fun _ _ _ h => h) rfl rfl rfl (Y_pick rfl rfl rfl rfl) ?_
  refine GA_y 16 rfl (by kernel_rfl) (by kernel_rfl) (by kernel_rfl) (fun _ _ _ h => h) rfl rfl rfl (Y_pick rfl rfl rfl rfl) ?_
  refine GA_y 17 rfl (by kernel_rfl) (by kernel_rfl) (by kernel_rfl) (fun _ _ _ h => h) rfl rfl rfl (Y_move rfl) ?_
  refine GA_y 18 rfl (by kernel_rfl) (by kernel_rfl) (by kernel_rfl) (fun _ _ _ h => h) rfl rfl rfl (Y_move rfl) ?_
  refine GA_y 19 rfl (by kernel_rfl) (by kernel_rfl) (by kernel_rfl) (fun _ _ _ h => h) rfl rfl rfl (Y_iop (v := .bool true) rfl rfl rfl) ?_
  refine GA_y 20 rfl (by kernel_rfl) (by kernel_rfl) (by kernel_rfl) (fun _ _ _ h => h) rfl rfl rfl (Y_move rfl) ?_
  refine GA_l 21 rfl (by kernel_rfl) (by kernel_rfl) (by kernel_rfl) (fun _ _ _ h => h) rfl rfl rfl rfl (Y_loadA rfl (by first | exact .head _ | exact .tail _ (.head _) | exact .tail _ (.tail _ (.head _)) | exact .tail _ (.tail _ (.tail _ (.head _))) | exact .tail _ (.tail _ (.tail _ (.tail _ (.head _)))) | exact .tail _ (.tail _ (.tail _ (.tail _ (.tail _ (.head _))))) | exact .tail _ (.tail _ (.tail _ (.tail _ (.tail _ (.tail _ (.head _)))))) | exact .tail _ (.tail _ (.tail _ (.tail _ (.tail _ (.tail _ (.tail _ (.head _))))))) | exact .tail _ (.tail _ (.tail _ (.tail _ (.tail _ (.tail _ (.tail _ (.tail _ (.head _)))))))) | exact .tail _ (.tail _ (.tail _ (.tail _ (.tail _ (.tail _ (.tail _ (.tail _ (.tail _ (.head _))))))))) | exact .tail _ (.tail _ (.tail _ (.tail _ (.tail _ (.tail _ (.tail _ (.tail _ (.tail _ (.tail _ (.head _)))))))))) | exact .tail _ (.tail _ (.tail _ (.tail _ (.tail _ (.tail _ (.tail _ (.tail _ (.tail _ (.tail _ (.tail _ (.head _))))))))))) | exact .tail _ (.tail _ (.tail _ (.tail _ (.tail _ (.tail _ (.tail _ (.tail _ (.tail _ (.tail _ (.tail _ (.tail _ (.head _)))))))))))) | exact .tail _ (.tail _ (.tail _ (.tail _ (.tail _ (.tail _ (.tail _ (.tail _ (.tail _ (.tail _ (.tail _ (.tail _ (.tail _ (.head _)))))))))))))) ag28 (by rw [len_B, k.len])) ?_
  refine GA_y 22 rfl (by kernel_rfl) (by kernel_rfl) (by kernel_rfl) (fun _ _ _ h => h) rfl rfl rfl (Y_move rfl) ?_
  refine GA_y 23 rfl (by kernel_rfl) (by kernel_rfl) (by kernel_rfl) (fun _ _ _ h => h) rfl rfl rfl (Y_move rfl) ?_
  refine GA_y 24 rfl (by kernel_rfl) (by kernel_rfl) (by kernel_rfl) (fun _ _ _ h => h) rfl rfl rfl (Y_rAt hs rfl rfl hk rfl) ?_
  refine GA_y 25 rfl (by kernel_rfl) (by kernel_rfl) (by kernel_rfl) (fun _ _ _ h => h) rfl rfl rfl (Y_field fd39_1 rfl) ?_
  refine GA_y 26 rfl (by kernel_rfl) (by kernel_rfl) (by kernel_rfl) (fun _ _ _ h => h) rfl rfl rfl (Y_rBytes hs (by simp) rfl hk) ?_
  refine GA_y 27 rfl (by kernel_rfl) (by kernel_rfl) (by kernel_rfl) (fun _ _ _ h => h) rfl rfl rfl ((Y_neqB eg28 ti28 rfl rfl k.len k.len).as (.bool false) (by simp)) ?_
  refine GA_y 28 rfl (by kernel_rfl) (by kernel_rfl) (by kernel_rfl) (fun _ _ _ h => h) rfl rfl rfl (Y_pick rfl rfl rfl rfl) ?_
  refine GA_y 29 rfl (by kernel_rfl) (by kernel_rfl) (by kernel_rfl) (fun _ _ _ h => h) rfl rfl rfl (Y_pick rfl rfl rfl rfl) ?_
  refine GA_done (by kernel_rfl) ?_
  (repeat (first | (with_reducible refine R_seq ?_) | (with_reducible refine R_block_normal ?_)))
  (repeat (with_reducible refine G_seq ?_))
  refine G_cond_f rfl (by first | rfl | decide | (simp; done) | (simp; omega)) ?_
  (repeat (with_reducible refine G_seq ?_))
  refine G_skip ?_
  (repeat (first | (with_reducible refine R_seq ?_) | (with_reducible refine R_block_normal ?_)))
  (repeat (with_reducible refine G_seq ?_))
  refine G_region ?_
  refine GL_y rfl rfl (Y_move rfl) ?_
  refine GL_call rfl rfl rfl rfl Try.call8 .nil (fun w hw => own_is (hs.keep hw (by simp)) (by omega)) ?_
  rintro _ _ ⟨ao2, c2, rfl, ⟨_, _, _, h⟩ | ⟨b136, rfl, rfl⟩⟩
  · subst h; simp at hk
  refine GL_y rfl rfl (Y_assign rfl) ?_
  refine GL_nil ?_
  (repeat (first | (with_reducible refine R_seq ?_) | (with_reducible refine R_block_normal ?_)))
  (repeat (with_reducible refine G_seq ?_))
  refine G_region ?_
  refine GL_y rfl rfl (Y_move rfl) ?_
  refine GL_y rfl rfl (Y_move rfl) ?_
  refine GL_y rfl rfl (Y_idxS (j := i) sl22 rfl rfl rfl hi) ?_
  refine GL_y rfl rfl (Y_field fd39_2 rfl) ?_
  refine GL_s rfl (S_sc rfl sc4 rfl rfl (by first | exact .head | exact (.tail .head) | exact (.tail (.tail .head)) | exact (.tail (.tail (.tail .head))) | exact (.tail (.tail (.tail (.tail .head)))) | exact (.tail (.tail (.tail (.tail (.tail .head))))) | exact (.tail (.tail (.tail (.tail (.tail (.tail .head)))))) | exact (.tail (.tail (.tail (.tail (.tail (.tail (.tail .head))))))) | exact (.tail (.tail (.tail (.tail (.tail (.tail (.tail (.tail .head)))))))) | exact (.tail (.tail (.tail (.tail (.tail (.tail (.tail (.tail (.tail .head))))))))) | exact (.tail (.tail (.tail (.tail (.tail (.tail (.tail (.tail (.tail (.tail .head)))))))))) | exact (.tail (.tail (.tail (.tail (.tail (.tail (.tail (.tail (.tail (.tail (.tail .head))))))))))) | exact (.tail (.tail (.tail (.tail (.tail (.tail (.tail (.tail (.tail (.tail (.tail (.tail .head)))))))))))) | exact (.tail (.tail (.tail (.tail (.tail (.tail (.tail (.tail (.tail (.tail (.tail (.tail (.tail .head)))))))))))))) (setrev_ok hk)) ?_
  refine GL_nil ?_
  (repeat (first | (with_reducible refine R_seq ?_) | (with_reducible refine R_block_normal ?_)))
  (repeat (with_reducible refine G_seq ?_))
  refine G_region ?_
  refine GL_call rfl rfl rfl rfl Try.call14 .nil (fun w hw => awake_is) ?_
  rintro _ _ ⟨rfl, rfl⟩
  refine GL_y rfl rfl (Y_move rfl) ?_
  refine GL_y rfl rfl (Y_move rfl) ?_
  refine GL_y rfl rfl (Y_iop (v := .bool true) rfl rfl rfl) ?_
  refine GL_y rfl rfl (Y_pick rfl rfl rfl rfl) ?_
  refine GL_y rfl rfl (Y_move rfl) ?_
  refine GL_y rfl rfl (Y_move rfl) ?_
  refine GL_y rfl rfl (Y_move rfl) ?_
  refine GL_call rfl rfl rfl rfl Try.call12 .nil (fun w hw => same_is' (r1 := ring.set i { k with rev := true }) (r2 := ring.set i { k with rev := true }) (SlAt.mk' (hw.cells (k := ⟨b33, 39, c33 * 34, ringL (ring.set i { k with rev := true }), (0, 0)⟩) (by first | exact .head _ | exact .tail _ (.head _) | exact .tail _ (.tail _ (.head _)) | exact .tail _ (.tail _ (.tail _ (.head _))) | exact .tail _ (.tail _ (.tail _ (.tail _ (.head _)))) | exact .tail _ (.tail _ (.tail _ (.tail _ (.tail _ (.head _))))) | exact .tail _ (.tail _ (.tail _ (.tail _ (.tail _ (.tail _ (.head _)))))) | exact .tail _ (.tail _ (.tail _ (.tail _ (.tail _ (.tail _ (.tail _ (.head _))))))) | exact .tail _ (.tail _ (.tail _ (.tail _ (.tail _ (.tail _ (.tail _ (.tail _ (.head _)))))))) | exact .tail _ (.tail _ (.tail _ (.tail _ (.tail _ (.tail _ (.tail _ (.tail _ (.tail _ (.head _))))))))) | exact .tail _ (.tail _ (.tail _ (.tail _ (.tail _ (.tail _ (.tail _ (.tail _ (.tail _ (.tail _ (.head _)))))))))) | exact .tail _ (.tail _ (.tail _ (.tail _ (.tail _ (.tail _ (.tail _ (.tail _ (.tail _ (.tail _ (.tail _ (.head _))))))))))) | exact .tail _ (.tail _ (.tail _ (.tail _ (.tail _ (.tail _ (.tail _ (.tail _ (.tail _ (.tail _ (.tail _ (.tail _ (.head _)))))))))))) | exact .tail _ (.tail _ (.tail _ (.tail _ (.tail _ (.tail _ (.tail _ (.tail _ (.tail _ (.tail _ (.tail _ (.tail _ (.tail _ (.head _)))))))))))))))) (SlAt.mk' (hw.cells (k := ⟨b136, 39, c2 * 34, ringL (ring.set i { k with rev := true }), (0, 0)⟩) (by first | exact .head _ | exact .tail _ (.head _) | exact .tail _ (.tail _ (.head _)) | exact .tail _ (.tail _ (.tail _ (.head _))) | exact .tail _ (.tail _ (.tail _ (.tail _ (.head _)))) | exact .tail _ (.tail _ (.tail _ (.tail _ (.tail _ (.head _))))) | exact .tail _ (.tail _ (.tail _ (.tail _ (.tail _ (.tail _ (.head _)))))) | exact .tail _ (.tail _ (.tail _ (.tail _ (.tail _ (.tail _ (.tail _ (.head _))))))) | exact .tail _ (.tail _ (.tail _ (.tail _ (.tail _ (.tail _ (.tail _ (.tail _ (.head _)))))))) | exact .tail _ (.tail _ (.tail _ (.tail _ (.tail _ (.tail _ (.tail _ (.tail _ (.tail _ (.head _))))))))) | exact .tail _ (.tail _ (.tail _ (.tail _ (.tail _ (.tail _ (.tail _ (.tail _ (.tail _ (.tail _ (.head _)))))))))) | exact .tail _ (.tail _ (.tail _ (.tail _ (.tail _ (.tail _ (.tail _ (.tail _ (.tail _ (.tail _ (.tail _ (.head _))))))))))) | exact .tail _ (.tail _ (.tail _ (.tail _ (.tail _ (.tail _ (.tail _ (.tail _ (.tail _ (.tail _ (.tail _ (.tail _ (.head _)))))))))))) | exact .tail _ (.tail _ (.tail _ (.tail _ (.tail _ (.tail _ (.tail _ (.tail _ (.tail _ (.tail _ (.tail _ (.tail _ (.tail _ (.head _)))))))))))))))) (by simp; omega) (by simp) (by simp)) ?_
  rintro _ _ ⟨rfl, rfl⟩
  refine GL_y rfl rfl (Y_pick rfl rfl rfl rfl) ?_
  refine GL_y rfl rfl (Y_assign rfl) ?_
  refine GL_nil ?_
  (repeat (first | (with_reducible refine R_seq ?_) | (with_reducible refine R_block_normal ?_)))
  (repeat (with_reducible refine G_seq ?_))
  refine G_ret ?_
  (repeat (first | (with_reducible refine R_then_ret ?_) | (with_reducible refine R_block_ret ?_)))
  refine R_ret (.tmp rfl .nil) [] .nil ⟨by simp [pack], rfl⟩
theorem keysLay_is {ao : Option Addr} {c : Nat} {ring : List KeyD} {x : Int} {w : World} (hs : SlAt w ao (ringL ring)) : FnAt Try.prog 3 [.slice ao ring.length c, .int .i64 x] [] w (Ret fun v N => v = .bool true ∧ N = []) := by
  rcases Nat.lt_or_ge 100 ring.length with hl | hl
  · exact lay_long hl
  · cases hm : mayB ring with
    | false => exact lay_bad hs hl hm
    | true =>
      cases hp : posD ring x with
      | none => exact lay_no hs hl hm hp
      | some i =>
        obtain ⟨k, hk, _⟩ := posD_at hp
        cases hr : k.rev with
        | true => exact lay_rev hs hl hm hp hk hr
        | false => exact lay_ok hs hl hm hp hk hr
end Go.Proofs.Ytkdodpcafamhaaa

/-
  The document's May and Place; own, Same, Clone.
-/
import Derived.Test.YtkdodpcafamhaaaK2
namespace Go.Proofs.Ytkdodpcafamhaaa
open Go Go.Sl Go.RowKit

set_option maxHeartbeats 4000000 in
theorem refMay_is {ao : Option Addr} {c : Nat} {ring : List KeyD} {b : Bool} {w : World} (hs : SlAt w ao (ringL ring)) (hlen : ring.length ≤ 1000) (hb : mayB ring = b) :
    FnAt Try.prog 13 [.slice ao ring.length c] [] w (Ret fun v N => v = .bool b ∧ N = []) := by
  refine FnAt.intro Try.func13 rfl Try.ntmps13 rfl _ rfl ?_
  (repeat (with_reducible refine G_seq ?_))
  refine G_region ?_
  refine GL_y rfl rfl (Y_assign rfl) ?_
  refine GL_nil ?_
  (repeat (first | (with_reducible refine R_seq ?_) | (with_reducible refine R_block_normal ?_)))
  (repeat (with_reducible refine G_seq ?_))
  refine G_region ?_
  refine GL_y rfl rfl (Y_assign rfl) ?_
  refine GL_nil ?_
  (repeat (first | (with_reducible refine R_seq ?_) | (with_reducible refine R_block_normal ?_)))
  (repeat (with_reducible refine G_seq ?_))
  refine G_block ?_
  (repeat (with_reducible refine G_seq ?_))
  refine G_loop (ι := Nat × Int) (fun i => ring.length - i.1) (fun i => i.1 ≤ ring.length ∧ -1 ≤ i.2 ∧ ascB (-1) ring = ascB i.2 (ring.drop i.1) ∧ (i.1 = 0 → i.2 = -1) ∧ (∀ k, 0 < i.1 → ring[i.1 - 1]? = some k → i.2 = k.num)) (fun i => [(0, .slice ao ring.length c), (2, .bool false), (3, .int .i64 (i.1 : Int))]) (fun i => []) (0, -1) ?_ (⟨by first | rfl | decide, by first | rfl | decide, by first | rfl | decide, trivial⟩) (by repeat (first | exact .nil | exact Pick.rfl' _ | exact Pick.skip (Pick.rfl' _) | exact Pick.skip (Pick.skip (Pick.rfl' _)) | (apply Pick.cons; focus (first | exact .head | exact (.tail .head) | exact (.tail (.tail .head)) | exact (.tail (.tail (.tail .head))) | exact (.tail (.tail (.tail (.tail .head)))) | exact (.tail (.tail (.tail (.tail (.tail .head))))) | exact (.tail (.tail (.tail (.tail (.tail (.tail .head)))))) | exact (.tail (.tail (.tail (.tail (.tail (.tail (.tail .head))))))) | exact (.tail (.tail (.tail (.tail (.tail (.tail (.tail (.tail .head)))))))) | exact (.tail (.tail (.tail (.tail (.tail (.tail (.tail (.tail (.tail .head))))))))) | exact (.tail (.tail (.tail (.tail (.tail (.tail (.tail (.tail (.tail (.tail .head)))))))))) | exact (.tail (.tail (.tail (.tail (.tail (.tail (.tail (.tail (.tail (.tail (.tail .head))))))))))) | exact (.tail (.tail (.tail (.tail (.tail (.tail (.tail (.tail (.tail (.tail (.tail (.tail .head)))))))))))) | exact (.tail (.tail (.tail (.tail (.tail (.tail (.tail (.tail (.tail (.tail (.tail (.tail (.tail .head))))))))))))))))) ?_
  · exact ⟨by omega, by simp, by simp, fun _ => rfl, fun k h => absurd h (by simp)⟩
  intro i ⟨hi, hge, hinv, hz, hp⟩
  (repeat (with_reducible refine G_seq ?_))
  refine G_region ?_
  refine GL_y rfl rfl (Y_move rfl) ?_
  refine GL_y rfl rfl (Y_move rfl) ?_
  refine GL_y rfl rfl (Y_len sl22 rfl) ?_
  refine GL_y rfl rfl (Y_lssN rfl rfl) ?_
  refine GL_nil ?_
  (repeat (first | (with_reducible refine R_seq ?_) | (with_reducible refine R_block_normal ?_)))
  (repeat (with_reducible refine G_seq ?_))
  refine G_cond_dec rfl (fun ht8 => ?_) (fun ht8 => ?_)
  · -- yes
    (repeat (with_reducible refine G_seq ?_))
    refine G_skip ?_
    (repeat (first | (with_reducible refine R_seq ?_) | (with_reducible refine R_block_normal ?_)))
    (repeat (with_reducible refine G_seq ?_))
    refine G_block ?_
    obtain ⟨k, hk⟩ : ∃ k, ring[i.1]? = some k := ⟨ring[i.1], List.getElem?_eq_getElem ht8⟩
    have hasc : ascB (-1) ring = (!decide (k.num ≤ i.2 ∨ k.num > 2147483647) && ascB k.num (ring.drop (i.1 + 1))) := by
      rw [hinv, drop_cons hk]; rfl
    (repeat (with_reducible refine G_seq ?_))
    refine G_region ?_
    refine GL_y rfl rfl (Y_move rfl) ?_
    refine GL_y rfl rfl (Y_move rfl) ?_
    refine GL_y rfl rfl (Y_rAt hs rfl rfl hk rfl) ?_
    refine GL_y rfl rfl (Y_field fd39_0 rfl) ?_
    refine GL_y rfl rfl (Y_rNum hs (by simp) rfl hk) ?_
    refine GL_y rfl rfl (Y_assign rfl) ?_
    refine GL_nil ?_
    (repeat (first | (with_reducible refine R_seq ?_) | (with_reducible refine R_block_normal ?_)))
    (repeat (with_reducible refine G_seq ?_))
    refine G_region ?_
    refine GL_y rfl rfl (Y_move rfl) ?_
    refine GL_y rfl rfl (Y_iop rfl rfl rfl) ?_
    refine GL_y rfl rfl (Y_move rfl) ?_
    refine GL_bool 18 rfl (fun g18 => ?_) (fun g18 => ?_)
    · -- g18 True
      have g18' := of_decide_eq_true g18
      refine GL_skip rfl rfl ?_
      refine GL_skip rfl rfl ?_
      refine GL_y rfl rfl (Y_pick rfl rfl rfl rfl) ?_
      refine GL_y rfl rfl (Y_move rfl) ?_
      refine GL_skip rfl rfl ?_
      refine GL_skip rfl rfl ?_
      refine GL_skip rfl rfl ?_
      refine GL_skip rfl rfl ?_
      refine GL_skip rfl rfl ?_
      refine GL_skip rfl rfl ?_
      refine GL_skip rfl rfl ?_
      refine GL_skip rfl rfl ?_
      refine GL_skip rfl rfl ?_
      refine GL_skip rfl rfl ?_
      refine GL_skip rfl rfl ?_
      refine GL_skip rfl rfl ?_
      refine GL_y rfl rfl (Y_pick rfl rfl rfl rfl) ?_
      refine GL_nil ?_
      (repeat (first | (with_reducible refine R_seq ?_) | (with_reducible refine R_block_normal ?_)))
      (repeat (with_reducible refine G_seq ?_))
      refine G_cond_t rfl (by first | rfl | decide | (simp; done) | (simp; omega)) ?_
      (repeat (with_reducible refine G_seq ?_))
      refine G_region ?_
      refine GL_y rfl rfl (Y_assign rfl) ?_
      refine GL_nil ?_
      (repeat (first | (with_reducible refine R_seq ?_) | (with_reducible refine R_block_normal ?_)))
      (repeat (with_reducible refine G_seq ?_))
      refine G_ret ?_
      (repeat (first | (with_reducible refine R_then_ret ?_) | (with_reducible refine R_block_ret ?_)))
      refine R_ret (.tmp rfl .nil) [] .nil ⟨congrArg Value.bool ?_, rfl⟩
      have hn : (k.num ≤ i.2 ∨ k.num > 2147483647) := by omega
      rw [← hb, mayB, hasc]; simp only [hn, decide_true, Bool.not_true, Bool.false_and]
    · -- g18 False
      have g18' := of_decide_eq_false g18
      refine GL_y rfl rfl (Y_move rfl) ?_
      refine GL_y rfl rfl (Y_iop rfl rfl rfl) ?_
      refine GL_y rfl rfl (Y_pick rfl rfl rfl rfl) ?_
      refine GL_y rfl rfl (Y_move rfl) ?_
      refine GL_bool 22 rfl (fun g22 => ?_) (fun g22 => ?_)
      · -- g22 True
        have g22' := of_decide_eq_true g22
        refine GL_skip rfl rfl ?_
        refine GL_skip rfl rfl ?_
        refine GL_skip rfl rfl ?_
        refine GL_skip rfl rfl ?_
        refine GL_skip rfl rfl ?_
        refine GL_skip rfl rfl ?_
        refine GL_skip rfl rfl ?_
        refine GL_skip rfl rfl ?_
        refine GL_skip rfl rfl ?_
        refine GL_skip rfl rfl ?_
        refine GL_skip rfl rfl ?_
        refine GL_skip rfl rfl ?_
        refine GL_y rfl rfl (Y_pick rfl rfl rfl rfl) ?_
        refine GL_nil ?_
        (repeat (first | (with_reducible refine R_seq ?_) | (with_reducible refine R_block_normal ?_)))
        (repeat (with_reducible refine G_seq ?_))
        refine G_cond_t rfl (by first | rfl | decide | (simp; done) | (simp; omega)) ?_
        (repeat (with_reducible refine G_seq ?_))
        refine G_region ?_
        refine GL_y rfl rfl (Y_assign rfl) ?_
        refine GL_nil ?_
        (repeat (first | (with_reducible refine R_seq ?_) | (with_reducible refine R_block_normal ?_)))
        (repeat (with_reducible refine G_seq ?_))
        refine G_ret ?_
        (repeat (first | (with_reducible refine R_then_ret ?_) | (with_reducible refine R_block_ret ?_)))
        refine R_ret (.tmp rfl .nil) [] .nil ⟨congrArg Value.bool ?_, rfl⟩
        have hn : (k.num ≤ i.2 ∨ k.num > 2147483647) := by omega
        rw [← hb, mayB, hasc]; simp only [hn, decide_true, Bool.not_true, Bool.false_and]
      · -- g22 False
        have g22' := of_decide_eq_false g22
        refine GL_y rfl rfl (Y_move rfl) ?_
        refine GL_y rfl rfl (Y_gtrN (b := 0) rfl rfl) ?_
        refine GL_y rfl rfl (Y_move rfl) ?_
        refine GL_bool 25 rfl (fun g25 => ?_) (fun g25 => ?_)
        · -- g25 True
          have g25' := of_decide_eq_true g25
          obtain ⟨k0, hk0⟩ : ∃ k, ring[i.1 - 1]? = some k := ⟨ring[i.1 - 1], List.getElem?_eq_getElem (by omega)⟩
          have hl0 := hp k0 g25' hk0
          refine GL_y rfl rfl (Y_move rfl) ?_
          refine GL_y rfl rfl (Y_move rfl) ?_
          refine GL_y rfl rfl (Y_move rfl) ?_
          refine GL_y rfl rfl (Y_subN (b := 1) rfl rfl (by omega) (by omega)) ?_
          refine GL_y rfl rfl (Y_rAt hs rfl rfl hk0 rfl) ?_
          refine GL_y rfl rfl (Y_field fd39_0 rfl) ?_
          refine GL_y rfl rfl (Y_rNum hs (by simp) rfl hk0) ?_
          refine GL_y rfl rfl (Y_iop rfl rfl rfl) ?_
          refine GL_y rfl rfl (Y_pick rfl rfl rfl rfl) ?_
          refine GL_y rfl rfl (Y_pick rfl rfl rfl rfl) ?_
          refine GL_nil ?_
          (repeat (first | (with_reducible refine R_seq ?_) | (with_reducible refine R_block_normal ?_)))
          (repeat (with_reducible refine G_seq ?_))
          refine G_cond rfl (fun h35 => ?_) (fun h35 => ?_)
          · -- yes
            try have h35 := of_decide_eq_true h35
            (repeat (with_reducible refine G_seq ?_))
            refine G_region ?_
            refine GL_y rfl rfl (Y_assign rfl) ?_
            refine GL_nil ?_
            (repeat (first | (with_reducible refine R_seq ?_) | (with_reducible refine R_block_normal ?_)))
            (repeat (with_reducible refine G_seq ?_))
            refine G_ret ?_
            (repeat (first | (with_reducible refine R_then_ret ?_) | (with_reducible refine R_block_ret ?_)))
            refine R_ret (.tmp rfl .nil) [] .nil ⟨congrArg Value.bool ?_, rfl⟩
            have hn : (k.num ≤ i.2 ∨ k.num > 2147483647) := by omega
            rw [← hb, mayB, hasc]; simp only [hn, decide_true, Bool.not_true, Bool.false_and]
          · -- no
            try have h35 := of_decide_eq_false h35
            (repeat (with_reducible refine G_seq ?_))
            refine G_skip ?_
            (repeat (first | (with_reducible refine R_seq ?_) | (with_reducible refine R_block_normal ?_)))
            (repeat (with_reducible refine G_seq ?_))
            refine G_region ?_
            refine GL_y rfl rfl (Y_move rfl) ?_
            refine GL_y rfl rfl (Y_addN (b := 1) rfl rfl (by first | omega | decide)) ?_
            refine GL_y rfl rfl (Y_assign rfl) ?_
            refine GL_nil ?_
            (repeat (first | (with_reducible refine R_seq ?_) | (with_reducible refine R_block_normal ?_)))
            (repeat (with_reducible refine R_block_normal ?_))
            refine R_fam (i.1 + 1, k.num) ?_ (⟨by first | rfl | decide, by first | rfl | decide, by first | rfl | decide, trivial⟩) (by repeat (first | exact .nil | exact Pick.rfl' _ | exact Pick.skip (Pick.rfl' _) | exact Pick.skip (Pick.skip (Pick.rfl' _)) | (apply Pick.cons; focus (first | exact .head | exact (.tail .head) | exact (.tail (.tail .head)) | exact (.tail (.tail (.tail .head))) | exact (.tail (.tail (.tail (.tail .head)))) | exact (.tail (.tail (.tail (.tail (.tail .head))))) | exact (.tail (.tail (.tail (.tail (.tail (.tail .head)))))) | exact (.tail (.tail (.tail (.tail (.tail (.tail (.tail .head))))))) | exact (.tail (.tail (.tail (.tail (.tail (.tail (.tail (.tail .head)))))))) | exact (.tail (.tail (.tail (.tail (.tail (.tail (.tail (.tail (.tail .head))))))))) | exact (.tail (.tail (.tail (.tail (.tail (.tail (.tail (.tail (.tail (.tail .head)))))))))) | exact (.tail (.tail (.tail (.tail (.tail (.tail (.tail (.tail (.tail (.tail (.tail .head))))))))))) | exact (.tail (.tail (.tail (.tail (.tail (.tail (.tail (.tail (.tail (.tail (.tail (.tail .head)))))))))))) | exact (.tail (.tail (.tail (.tail (.tail (.tail (.tail (.tail (.tail (.tail (.tail (.tail (.tail .head)))))))))))))))))
            have hn : ¬ (k.num ≤ i.2 ∨ k.num > 2147483647) := by omega
            refine ⟨⟨by simp only; omega, by simp only; omega, ?_, fun h => by simp at h, fun k1 _ h1 => ?_⟩, by simp only; omega⟩
            · rw [hasc]; simp only [hn, decide_false, Bool.not_false, Bool.true_and]
            · simp only [Nat.add_sub_cancel] at h1; rw [hk] at h1; injection h1 with h1; subst h1; rfl
        · -- g25 False
          have g25' := of_decide_eq_false g25
          have hl0 := hz (by omega)
          refine GL_skip rfl rfl ?_
          refine GL_skip rfl rfl ?_
          refine GL_skip rfl rfl ?_
          refine GL_skip rfl rfl ?_
          refine GL_skip rfl rfl ?_
          refine GL_skip rfl rfl ?_
          refine GL_skip rfl rfl ?_
          refine GL_skip rfl rfl ?_
          refine GL_y rfl rfl (Y_pick rfl rfl rfl rfl) ?_
          refine GL_y rfl rfl (Y_pick rfl rfl rfl rfl) ?_
          refine GL_nil ?_
          (repeat (first | (with_reducible refine R_seq ?_) | (with_reducible refine R_block_normal ?_)))
          (repeat (with_reducible refine G_seq ?_))
          refine G_cond_f rfl (by first | rfl | decide | (simp; done) | (simp; omega)) ?_
          (repeat (with_reducible refine G_seq ?_))
          refine G_skip ?_
          (repeat (first | (with_reducible refine R_seq ?_) | (with_reducible refine R_block_normal ?_)))
          (repeat (with_reducible refine G_seq ?_))
          refine G_region ?_
          refine GL_y rfl rfl (Y_move rfl) ?_
          refine GL_y rfl rfl (Y_addN (b := 1) rfl rfl (by first | omega | decide)) ?_
          refine GL_y rfl rfl (Y_assign rfl) ?_
          refine GL_nil ?_
          (repeat (first | (with_reducible refine R_seq ?_) | (with_reducible refine R_block_normal ?_)))
          (repeat (with_reducible refine R_block_normal ?_))
          refine R_fam (i.1 + 1, k.num) ?_ (⟨by first | rfl | decide, by first | rfl | decide, by first | rfl | decide, trivial⟩) (by repeat (first | exact .nil | exact Pick.rfl' _ | exact Pick.skip (Pick.rfl' _) | exact Pick.skip (Pick.skip (Pick.rfl' _)) | (apply Pick.cons; focus (first | exact .head | exact (.tail .head) | exact (.tail (.tail .head)) | exact (.tail (.tail (.tail .head))) | exact (.tail (.tail (.tail (.tail .head)))) | exact (.tail (.tail (.tail (.tail (.tail .head))))) | exact (.tail (.tail (.tail (.tail (.tail (.tail .head)))))) | exact (.tail (.tail (.tail (.tail (.tail (.tail (.tail .head))))))) | exact (.tail (.tail (.tail (.tail (.tail (.tail (.tail (.tail .head)))))))) | exact (.tail (.tail (.tail (.tail (.tail (.tail (.tail (.tail (.tail .head))))))))) | exact (.tail (.tail (.tail (.tail (.tail (.tail (.tail (.tail (.tail (.tail .head)))))))))) | exact (.tail (.tail (.tail (.tail (.tail (.tail (.tail (.tail (.tail (.tail (.tail .head))))))))))) | exact (.tail (.tail (.tail (.tail (.tail (.tail (.tail (.tail (.tail (.tail (.tail (.tail .head)))))))))))) | exact (.tail (.tail (.tail (.tail (.tail (.tail (.tail (.tail (.tail (.tail (.tail (.tail (.tail .head)))))))))))))))))
          have hn : ¬ (k.num ≤ i.2 ∨ k.num > 2147483647) := by omega
          refine ⟨⟨by simp only; omega, by simp only; omega, ?_, fun h => by simp at h, fun k1 _ h1 => ?_⟩, by simp only; omega⟩
          · rw [hasc]; simp only [hn, decide_false, Bool.not_false, Bool.true_and]
          · simp only [Nat.add_sub_cancel] at h1; rw [hk] at h1; injection h1 with h1; subst h1; rfl
  · -- no
    (repeat (with_reducible refine G_seq ?_))
    refine G_exit ?_
    (repeat (first | (with_reducible refine R_then_exit ?_) | (with_reducible refine R_block_exit ?_) | (with_reducible refine R_block_other (by decide) ?_)))
    (repeat (first | (with_reducible refine R_seq ?_) | (with_reducible refine R_block_normal ?_)))
    (repeat (with_reducible refine G_seq ?_))
    refine G_region ?_
    refine GL_y rfl rfl (Y_move rfl) ?_
    refine GL_y rfl rfl (Y_len sl22 rfl) ?_
    refine GL_y rfl rfl (Y_leqN (b := 8) rfl rfl) ?_
    refine GL_y rfl rfl (Y_assign rfl) ?_
    refine GL_nil ?_
    (repeat (first | (with_reducible refine R_seq ?_) | (with_reducible refine R_block_normal ?_)))
    (repeat (with_reducible refine G_seq ?_))
    refine G_ret ?_
    (repeat (first | (with_reducible refine R_then_ret ?_) | (with_reducible refine R_block_ret ?_)))
    refine R_ret (.tmp rfl .nil) [] .nil ⟨congrArg Value.bool ?_, rfl⟩
    rw [← hb, mayB, hinv, List.drop_eq_nil_of_le (by omega)]; simp [ascB]
def posI : Option Nat → Int
  | some i => i
  | none => -1
set_option maxHeartbeats 4000000 in
theorem refPlace_is {ao : Option Addr} {c : Nat} {ring : List KeyD} {x : Int} {w : World} (hs : SlAt w ao (ringL ring)) (hlen : ring.length ≤ 1000) :
    FnAt Try.prog 16 [.slice ao ring.length c, .int .i64 x] [] w (Ret fun v N => v = .int .i64 (posI (posD ring x)) ∧ N = []) := by
  refine FnAt.intro Try.func16 rfl Try.ntmps16 rfl _ rfl ?_
  (repeat (with_reducible refine G_seq ?_))
  refine G_region ?_
  refine GL_y rfl rfl (Y_assign rfl) ?_
  refine GL_nil ?_
  (repeat (first | (with_reducible refine R_seq ?_) | (with_reducible refine R_block_normal ?_)))
  (repeat (with_reducible refine G_seq ?_))
  refine G_region ?_
  refine GL_y rfl rfl (Y_assign rfl) ?_
  refine GL_nil ?_
  (repeat (first | (with_reducible refine R_seq ?_) | (with_reducible refine R_block_normal ?_)))
  (repeat (with_reducible refine G_seq ?_))
  refine G_block ?_
  (repeat (with_reducible refine G_seq ?_))
  refine G_loop (ι := Nat) (fun i => ring.length - i) (fun i => i ≤ ring.length ∧ (∀ (q : Nat) k, q < i → ring[q]? = some k → k.num ≠ x)) (fun i => [(0, .slice ao ring.length c), (1, .int .i64 x), (4, .int .i64 0), (5, .int .i64 (i : Int))]) (fun i => []) 0 ?_ (⟨by first | rfl | decide, by first | rfl | decide, by first | rfl | decide, by first | rfl | decide, trivial⟩) (by repeat (first | exact .nil | exact Pick.rfl' _ | exact Pick.skip (Pick.rfl' _) | exact Pick.skip (Pick.skip (Pick.rfl' _)) | (apply Pick.cons; focus (first | exact .head | exact (.tail .head) | exact (.tail (.tail .head)) | exact (.tail (.tail (.tail .head))) | exact (.tail (.tail (.tail (.tail .head)))) | exact (.tail (.tail (.tail (.tail (.tail .head))))) | exact (.tail (.tail (.tail (.tail (.tail (.tail .head)))))) | exact (.tail (.tail (.tail (.tail (.tail (.tail (.tail .head))))))) | exact (.tail (.tail (.tail (.tail (.tail (.tail (.tail (.tail .head)))))))) | exact (.tail (.tail (.tail (.tail (.tail (.tail (.tail (.tail (.tail .head))))))))) | exact (.tail (.tail (.tail (.tail (.tail (.tail (.tail (.tail (.tail (.tail .head)))))))))) | exact (.tail (.tail (.tail (.tail (.tail (.tail (.tail (.tail (.tail (.tail (.tail .head))))))))))) | exact (.tail (.tail (.tail (.tail (.tail (.tail (.tail (.tail (.tail (.tail (.tail (.tail .head)))))))))))) | exact (.tail (.tail (.tail (.tail (.tail (.tail (.tail (.tail (.tail (.tail (.tail (.tail (.tail .head))))))))))))))))) ?_
  · exact ⟨by omega, fun q k h => by omega⟩
  intro i ⟨hi, hinv⟩
  (repeat (with_reducible refine G_seq ?_))
  refine G_region ?_
  refine GL_y rfl rfl (Y_move rfl) ?_
  refine GL_y rfl rfl (Y_move rfl) ?_
  refine GL_y rfl rfl (Y_len sl22 rfl) ?_
  refine GL_y rfl rfl (Y_lssN rfl rfl) ?_
  refine GL_nil ?_
  (repeat (first | (with_reducible refine R_seq ?_) | (with_reducible refine R_block_normal ?_)))
  (repeat (with_reducible refine G_seq ?_))
  refine G_cond_dec rfl (fun ht9 => ?_) (fun ht9 => ?_)
  · -- yes
    (repeat (with_reducible refine G_seq ?_))
    refine G_skip ?_
    (repeat (first | (with_reducible refine R_seq ?_) | (with_reducible refine R_block_normal ?_)))
    (repeat (with_reducible refine G_seq ?_))
    refine G_block ?_
    obtain ⟨k, hk⟩ : ∃ k, ring[i]? = some k := ⟨ring[i], List.getElem?_eq_getElem ht9⟩
    (repeat (with_reducible refine G_seq ?_))
    refine G_region ?_
    refine GL_y rfl rfl (Y_move rfl) ?_
    refine GL_y rfl rfl (Y_move rfl) ?_
    refine GL_y rfl rfl (Y_rAt hs rfl rfl hk rfl) ?_
    refine GL_y rfl rfl (Y_field fd39_0 rfl) ?_
    refine GL_y rfl rfl (Y_rNum hs (by simp) rfl hk) ?_
    refine GL_y rfl rfl (Y_move rfl) ?_
    refine GL_y rfl rfl (Y_iop rfl rfl rfl) ?_
    refine GL_nil ?_
    (repeat (first | (with_reducible refine R_seq ?_) | (with_reducible refine R_block_normal ?_)))
    (repeat (with_reducible refine G_seq ?_))
    refine G_cond_dec rfl (fun ht18 => ?_) (fun ht18 => ?_)
    · -- yes
      (repeat (with_reducible refine G_seq ?_))
      refine G_region ?_
      refine GL_y rfl rfl (Y_move rfl) ?_
      refine GL_y rfl rfl (Y_assign rfl) ?_
      refine GL_nil ?_
      (repeat (first | (with_reducible refine R_seq ?_) | (with_reducible refine R_block_normal ?_)))
      (repeat (with_reducible refine G_seq ?_))
      refine G_ret ?_
      (repeat (first | (with_reducible refine R_then_ret ?_) | (with_reducible refine R_block_ret ?_)))
      have hp : posD ring x = some i := by
        unfold posD; rw [List.findIdx?_eq_some_iff_getElem]
        refine ⟨ht9, ?_, fun j hj => ?_⟩
        · have := (List.getElem?_eq_some_iff.1 hk).2; rw [this]; simpa using ht18
        · have := hinv j _ hj (List.getElem?_eq_getElem (by omega)); simpa using this
      refine R_ret (.tmp rfl .nil) [] .nil ⟨?_, rfl⟩
      rw [hp]; rfl
    · -- no
      (repeat (with_reducible refine G_seq ?_))
      refine G_skip ?_
      (repeat (first | (with_reducible refine R_seq ?_) | (with_reducible refine R_block_normal ?_)))
      (repeat (with_reducible refine G_seq ?_))
      refine G_region ?_
      refine GL_y rfl rfl (Y_move rfl) ?_
      refine GL_y rfl rfl (Y_addN (b := 1) rfl rfl (by first | omega | decide)) ?_
      refine GL_y rfl rfl (Y_assign rfl) ?_
      refine GL_nil ?_
      (repeat (first | (with_reducible refine R_seq ?_) | (with_reducible refine R_block_normal ?_)))
      (repeat (with_reducible refine R_block_normal ?_))
      refine R_fam (i + 1) ?_ (⟨by first | rfl | decide, by first | rfl | decide, by first | rfl | decide, by first | rfl | decide, trivial⟩) (by repeat (first | exact .nil | exact Pick.rfl' _ | exact Pick.skip (Pick.rfl' _) | exact Pick.skip (Pick.skip (Pick.rfl' _)) | (apply Pick.cons; focus (first | exact .head | exact (.tail .head) | exact (.tail (.tail .head)) | exact (.tail (.tail (.tail .head))) | exact (.tail (.tail (.tail (.tail .head)))) | exact (.tail (.tail (.tail (.tail (.tail .head))))) | exact (.tail (.tail (.tail (.tail (.tail (.tail .head)))))) | exact (.tail (.tail (.tail (.tail (.tail (.tail (.tail .head))))))) | exact (.tail (.tail (.tail (.tail (.tail (.tail (.tail (.tail .head)))))))) | exact (.tail (.tail (.tail (.tail (.tail (.tail (.tail (.tail (.tail .head))))))))) | exact (.tail (.tail (.tail (.tail (.tail (.tail (.tail (.tail (.tail (.tail .head)))))))))) | exact (.tail (.tail (.tail (.tail (.tail (.tail (.tail (.tail (.tail (.tail (.tail .head))))))))))) | exact (.tail (.tail (.tail (.tail (.tail (.tail (.tail (.tail (.tail (.tail (.tail (.tail .head)))))))))))) | exact (.tail (.tail (.tail (.tail (.tail (.tail (.tail (.tail (.tail (.tail (.tail (.tail (.tail .head)))))))))))))))))
      refine ⟨⟨by omega, fun q k1 hq hk1 => ?_⟩, by omega⟩
      by_cases hqe : q = i
      · subst hqe; rw [hk] at hk1; injection hk1 with hk1; subst hk1; exact ht18
      · exact hinv q k1 (by omega) hk1
  · -- no
    (repeat (with_reducible refine G_seq ?_))
    refine G_exit ?_
    (repeat (first | (with_reducible refine R_then_exit ?_) | (with_reducible refine R_block_exit ?_) | (with_reducible refine R_block_other (by decide) ?_)))
    (repeat (first | (with_reducible refine R_seq ?_) | (with_reducible refine R_block_normal ?_)))
    (repeat (with_reducible refine G_seq ?_))
    refine G_region ?_
    refine GL_y rfl rfl (Y_assign rfl) ?_
    refine GL_nil ?_
    (repeat (first | (with_reducible refine R_seq ?_) | (with_reducible refine R_block_normal ?_)))
    (repeat (with_reducible refine G_seq ?_))
    refine G_ret ?_
    (repeat (first | (with_reducible refine R_then_ret ?_) | (with_reducible refine R_block_ret ?_)))
    have hp : posD ring x = none := posD_none fun q k hk => hinv q k (by have := (List.getElem?_eq_some_iff.1 hk).1; omega) hk
    refine R_ret (.tmp rfl .nil) [] .nil ⟨?_, rfl⟩
    rw [hp]; rfl
theorem own_is {ao : Option Addr} {c : Nat} {ring : List KeyD} {w : World} (hs : SlAt w ao (ringL ring)) (hlen : ring.length ≤ 1000) :
    FnAt Try.prog 8 [.slice ao ring.length c] [] w (Ret fun v N => ∃ ao' c', v = .slice ao' ring.length c' ∧ Own N ao' c' ring) := by
  by_cases hr : ring = []
  · subst hr
    refine FnAt.intro Try.func8 rfl Try.ntmps8 rfl _ rfl ?_
    (repeat (with_reducible refine G_seq ?_))
    refine G_region ?_
    refine GL_y rfl rfl (Y_assign rfl) ?_
    refine GL_nil ?_
    (repeat (first | (with_reducible refine R_seq ?_) | (with_reducible refine R_block_normal ?_)))
    (repeat (with_reducible refine G_seq ?_))
    refine G_region ?_
    refine GL_y rfl rfl (Y_assign rfl) ?_
    refine GL_nil ?_
    (repeat (first | (with_reducible refine R_seq ?_) | (with_reducible refine R_block_normal ?_)))
    (repeat (with_reducible refine G_seq ?_))
    refine G_region ?_
    refine GL_y rfl rfl (Y_move rfl) ?_
    refine GL_y rfl rfl (Y_move rfl) ?_
    refine GL_w rfl rfl (W_appNil0 Try.underlying22 el39 rfl rfl ?_)
    refine GL_y rfl rfl (Y_assign rfl) ?_
    refine GL_nil ?_
    (repeat (first | (with_reducible refine R_seq ?_) | (with_reducible refine R_block_normal ?_)))
    (repeat (with_reducible refine G_seq ?_))
    refine G_region ?_
    refine GL_y rfl rfl (Y_move rfl) ?_
    refine GL_y rfl rfl (Y_assign rfl) ?_
    refine GL_nil ?_
    (repeat (first | (with_reducible refine R_seq ?_) | (with_reducible refine R_block_normal ?_)))
    (repeat (with_reducible refine G_seq ?_))
    refine G_ret ?_
    (repeat (first | (with_reducible refine R_then_ret ?_) | (with_reducible refine R_block_ret ?_)))
    refine R_ret (.tmp rfl .nil) [] .nil ⟨none, 0, rfl, .inl ⟨rfl, rfl, rfl, rfl⟩⟩
  · have hpos : 0 < ring.length := List.length_pos_iff.2 hr
    refine FnAt.intro Try.func8 rfl Try.ntmps8 rfl _ rfl ?_
    (repeat (with_reducible refine G_seq ?_))
    refine G_region ?_
    refine GL_y rfl rfl (Y_assign rfl) ?_
    refine GL_nil ?_
    (repeat (first | (with_reducible refine R_seq ?_) | (with_reducible refine R_block_normal ?_)))
    (repeat (with_reducible refine G_seq ?_))
    refine G_region ?_
    refine GL_y rfl rfl (Y_assign rfl) ?_
    refine GL_nil ?_
    (repeat (first | (with_reducible refine R_seq ?_) | (with_reducible refine R_block_normal ?_)))
    (repeat (with_reducible refine G_seq ?_))
    refine G_region ?_
    refine GL_y rfl rfl (Y_move rfl) ?_
    refine GL_y rfl rfl (Y_move rfl) ?_
    refine GL_w rfl rfl (W_appNil Try.underlying22 el39 rfl rfl (ringL_len ring) hpos (fun w s => hs.keep s (by simp)) (by decide) (by omega) (by omega) fun b6 c6 h6 => ?_)
    refine GL_y rfl rfl (Y_assign rfl) ?_
    refine GL_nil ?_
    (repeat (first | (with_reducible refine R_seq ?_) | (with_reducible refine R_block_normal ?_)))
    (repeat (with_reducible refine G_seq ?_))
    refine G_region ?_
    refine GL_y rfl rfl (Y_move rfl) ?_
    refine GL_y rfl rfl (Y_assign rfl) ?_
    refine GL_nil ?_
    (repeat (first | (with_reducible refine R_seq ?_) | (with_reducible refine R_block_normal ?_)))
    (repeat (with_reducible refine G_seq ?_))
    refine G_ret ?_
    (repeat (first | (with_reducible refine R_then_ret ?_) | (with_reducible refine R_block_ret ?_)))
    refine R_ret (.tmp rfl .nil) [⟨b6, 39, c6 * 34, ringL ring, (0, 0)⟩] (by repeat (first | exact .nil | exact Pick.rfl' _ | exact Pick.skip (Pick.rfl' _) | exact Pick.skip (Pick.skip (Pick.rfl' _)) | (apply Pick.cons; focus (first | exact .head | exact (.tail .head) | exact (.tail (.tail .head)) | exact (.tail (.tail (.tail .head))) | exact (.tail (.tail (.tail (.tail .head)))) | exact (.tail (.tail (.tail (.tail (.tail .head))))) | exact (.tail (.tail (.tail (.tail (.tail (.tail .head)))))) | exact (.tail (.tail (.tail (.tail (.tail (.tail (.tail .head))))))) | exact (.tail (.tail (.tail (.tail (.tail (.tail (.tail (.tail .head)))))))) | exact (.tail (.tail (.tail (.tail (.tail (.tail (.tail (.tail (.tail .head))))))))) | exact (.tail (.tail (.tail (.tail (.tail (.tail (.tail (.tail (.tail (.tail .head)))))))))) | exact (.tail (.tail (.tail (.tail (.tail (.tail (.tail (.tail (.tail (.tail (.tail .head))))))))))) | exact (.tail (.tail (.tail (.tail (.tail (.tail (.tail (.tail (.tail (.tail (.tail (.tail .head)))))))))))) | exact (.tail (.tail (.tail (.tail (.tail (.tail (.tail (.tail (.tail (.tail (.tail (.tail (.tail .head))))))))))))))))) ⟨some ⟨b6, 0, none⟩, c6, rfl, .inr ⟨b6, rfl, rfl⟩⟩
theorem clone_is {ao : Option Addr} {c : Nat} {ring : List KeyD} {w : World} (hs : SlAt w ao (ringL ring)) (hlen : ring.length ≤ 1000) (hpos : 0 < ring.length) :
    FnAt Try.prog 22 [.slice ao ring.length c] [] w (Ret fun v N => ∃ b c', v = .slice (some ⟨b, 0, none⟩) ring.length c' ∧ N = [⟨b, 39, c' * 34, ringL ring, (0, 0)⟩]) := by
  have hne : ringL ring ≠ [] := fun e => by
    have h1 := ringL_len ring
    rw [e] at h1; simp only [List.length_nil] at h1; omega
  have hao := hs.addr hne
  refine FnAt.intro Try.func22 rfl Try.ntmps22 rfl _ rfl ?_
  (repeat (with_reducible refine G_seq ?_))
  refine G_region ?_
  refine GL_y rfl rfl (Y_assign rfl) ?_
  refine GL_nil ?_
  (repeat (first | (with_reducible refine R_seq ?_) | (with_reducible refine R_block_normal ?_)))
  (repeat (with_reducible refine G_seq ?_))
  refine G_region ?_
  refine GL_y rfl rfl (Y_move rfl) ?_
  refine GL_y rfl rfl (Y_eqNil Try.underlying22 rfl rfl) ?_
  refine GL_nil ?_
  (repeat (first | (with_reducible refine R_seq ?_) | (with_reducible refine R_block_normal ?_)))
  (repeat (with_reducible refine G_seq ?_))
  refine G_cond_f rfl (by rw [hao]; rfl) ?_
  (repeat (with_reducible refine G_seq ?_))
  refine G_skip ?_
  (repeat (first | (with_reducible refine R_seq ?_) | (with_reducible refine R_block_normal ?_)))
  (repeat (with_reducible refine G_seq ?_))
  refine G_region ?_
  refine GL_w rfl rfl (W_bs0 Try.underlying22 el39 fun b5 => ?_)
  refine GL_y rfl rfl (Y_move rfl) ?_
  refine GL_w rfl rfl (W_app (l := 0) (xs := []) Try.underlying22 el39 rfl rfl (by first | exact .head | exact (.tail .head) | exact (.tail (.tail .head)) | exact (.tail (.tail (.tail .head))) | exact (.tail (.tail (.tail (.tail .head)))) | exact (.tail (.tail (.tail (.tail (.tail .head))))) | exact (.tail (.tail (.tail (.tail (.tail (.tail .head)))))) | exact (.tail (.tail (.tail (.tail (.tail (.tail (.tail .head))))))) | exact (.tail (.tail (.tail (.tail (.tail (.tail (.tail (.tail .head)))))))) | exact (.tail (.tail (.tail (.tail (.tail (.tail (.tail (.tail (.tail .head))))))))) | exact (.tail (.tail (.tail (.tail (.tail (.tail (.tail (.tail (.tail (.tail .head)))))))))) | exact (.tail (.tail (.tail (.tail (.tail (.tail (.tail (.tail (.tail (.tail (.tail .head))))))))))) | exact (.tail (.tail (.tail (.tail (.tail (.tail (.tail (.tail (.tail (.tail (.tail (.tail .head)))))))))))) | exact (.tail (.tail (.tail (.tail (.tail (.tail (.tail (.tail (.tail (.tail (.tail (.tail (.tail .head)))))))))))))) rfl (ringL_len ring) (.inl rfl) (fun w s => hs.keep s (by simp)) (ringL_all ring) (by decide) (by omega) (by omega) fun b7 c7 h7 => ?_)
  refine GL_y rfl rfl (Y_assign rfl) ?_
  refine GL_nil ?_
  (repeat (first | (with_reducible refine R_seq ?_) | (with_reducible refine R_block_normal ?_)))
  (repeat (with_reducible refine G_seq ?_))
  refine G_ret ?_
  (repeat (first | (with_reducible refine R_then_ret ?_) | (with_reducible refine R_block_ret ?_)))
  refine R_ret (.tmp rfl .nil) [⟨b7, 39, c7 * 34, ringL ring, (0, 0)⟩] (by repeat (first | exact .nil | exact Pick.rfl' _ | exact Pick.skip (Pick.rfl' _) | exact Pick.skip (Pick.skip (Pick.rfl' _)) | (apply Pick.cons; focus (first | exact .head | exact (.tail .head) | exact (.tail (.tail .head)) | exact (.tail (.tail (.tail .head))) | exact (.tail (.tail (.tail (.tail .head)))) | exact (.tail (.tail (.tail (.tail (.tail .head))))) | exact (.tail (.tail (.tail (.tail (.tail (.tail .head)))))) | exact (.tail (.tail (.tail (.tail (.tail (.tail (.tail .head))))))) | exact (.tail (.tail (.tail (.tail (.tail (.tail (.tail (.tail .head)))))))) | exact (.tail (.tail (.tail (.tail (.tail (.tail (.tail (.tail (.tail .head))))))))) | exact (.tail (.tail (.tail (.tail (.tail (.tail (.tail (.tail (.tail (.tail .head)))))))))) | exact (.tail (.tail (.tail (.tail (.tail (.tail (.tail (.tail (.tail (.tail (.tail .head))))))))))) | exact (.tail (.tail (.tail (.tail (.tail (.tail (.tail (.tail (.tail (.tail (.tail (.tail .head)))))))))))) | exact (.tail (.tail (.tail (.tail (.tail (.tail (.tail (.tail (.tail (.tail (.tail (.tail (.tail .head))))))))))))))))) ⟨b7, c7, by simp [pack], rfl⟩
theorem keyEq (a b : KeyD) (w : World) : (Op.equalIn 10000 39 (.agg (keyL a).toArray) (.agg (keyL b).toArray)).run Try.prog w = .ok (decide (a = b)) w := by
  have hf : Try.prog.fieldsOf 39 = #[⟨"Number", 3, 0, false, "", "", 0⟩, ⟨"Bytes", 28, 1, false, "", "", 8⟩, ⟨"Revoked", 4, 33, false, "", "", 40⟩] := by kernel_rfl
  rw [run_equalIn_struct w 9999 39 _ _ (by rw [hf]; exact Try.underlying39) (by kernel_rfl), hf]
  have hn : ∀ k : KeyD, (part 3 (keyL k).toArray 0).run Try.prog w = .ok (.int .i64 k.num) w := fun k => run_part_sc sc3 (by simp [keyL]) w
  have hr : ∀ k : KeyD, (part 4 (keyL k).toArray 33).run Try.prog w = .ok (.bool k.rev) w := fun k => run_part_sc sc4 (by simpa using key_rev k) w
  have hb : ∀ k : KeyD, (part 28 (keyL k).toArray 1).run Try.prog w = .ok (.agg (B k.bytes).toArray) w := fun k => by
    rw [run_part_ag ag28 w]
    have := key_bytes k
    congr 2
    apply Array.toList_inj.1
    simpa using this
  have e1 := run_equalIn_int (P := Try.prog) w 9998 3 .i64 .i64 a.num b.num Try.underlying3
  have e2 : (Op.equalIn 9999 28 (.agg (B a.bytes).toArray) (.agg (B b.bytes).toArray)).run Try.prog w = .ok (decide (a.bytes = b.bytes)) w := by
    rw [B_ints, B_ints, run_equal_ints (d := 9997) ti28 _ _ (by simpa using a.len) (by simpa using b.len) w]
    simp only [ints_inj]
  have e3 := run_equalIn_bool' (P := Try.prog) w 9998 4 a.rev b.rev Try.underlying4
  refine (eqFields_cons (by decide) (hn a) (hn b) e1 (eqFields_cons (by decide) (hb a) (hb b) e2 (eqFields_cons (by decide) (hr a) (hr b) e3 eqFields_nil))).trans ?_
  congr 1
  rw [Bool.eq_iff_iff]
  cases a; cases b
  simp
theorem Y_neqKey {n : Nat} {D : List Deferred} {X : List Nat} {w0 : World} {E : Env} {M : List Blk} {tt ty : TypeId} {x y : Operand} {a b : KeyD} (hx : ev E x = some (.agg (keyL a).toArray)) (hy : ev E y = some (.agg (keyL b).toArray)) :
    Yl Try.prog n D X w0 E M (.binOp .neq 39 x y ty) tt (.bool (!decide (a = b))) := Y_eqAgg (op := .neq) eg39 hx hy (keyEq a b) (.inr rfl)
set_option maxHeartbeats 4000000 in
theorem same_is {ao ao2 : Option Addr} {c c2 : Nat} {r1 r2 : List KeyD} {w : World} (hs : SlAt w ao (ringL r1)) (hs2 : SlAt w ao2 (ringL r2)) (hlen : r1.length ≤ 1000) :
    FnAt Try.prog 12 [.slice ao r1.length c, .slice ao2 r2.length c2] [] w (Ret fun v N => v = .bool (decide (r1 = r2)) ∧ N = []) := by
  refine FnAt.intro Try.func12 rfl Try.ntmps12 rfl _ rfl ?_
  (repeat (with_reducible refine G_seq ?_))
  refine G_region ?_
  refine GL_y rfl rfl (Y_assign rfl) ?_
  refine GL_nil ?_
  (repeat (first | (with_reducible refine R_seq ?_) | (with_reducible refine R_block_normal ?_)))
  (repeat (with_reducible refine G_seq ?_))
  refine G_region ?_
  refine GL_y rfl rfl (Y_move rfl) ?_
  refine GL_y rfl rfl (Y_len sl22 rfl) ?_
  refine GL_y rfl rfl (Y_move rfl) ?_
  refine GL_y rfl rfl (Y_len sl22 rfl) ?_
  refine GL_y rfl rfl (Y_iop rfl rfl rfl) ?_
  refine GL_nil ?_
  (repeat (first | (with_reducible refine R_seq ?_) | (with_reducible refine R_block_normal ?_)))
  (repeat (with_reducible refine G_seq ?_))
  refine G_cond rfl (fun h10 => ?_) (fun h10 => ?_)
  · -- yes
    have h10 : ¬ r1.length = r2.length := by simp at h10; omega
    (repeat (with_reducible refine G_seq ?_))
    refine G_region ?_
    refine GL_y rfl rfl (Y_assign rfl) ?_
    refine GL_nil ?_
    (repeat (first | (with_reducible refine R_seq ?_) | (with_reducible refine R_block_normal ?_)))
    (repeat (with_reducible refine G_seq ?_))
    refine G_ret ?_
    (repeat (first | (with_reducible refine R_then_ret ?_) | (with_reducible refine R_block_ret ?_)))
    refine R_ret (.tmp rfl .nil) [] .nil ⟨congrArg Value.bool ?_, rfl⟩
    exact (decide_eq_false fun e => h10 (by rw [e])).symm
  · -- no
    have hle : r1.length = r2.length := by simp at h10; omega
    (repeat (with_reducible refine G_seq ?_))
    refine G_skip ?_
    (repeat (first | (with_reducible refine R_seq ?_) | (with_reducible refine R_block_normal ?_)))
    (repeat (with_reducible refine G_seq ?_))
    refine G_region ?_
    refine GL_y rfl rfl (Y_assign rfl) ?_
    refine GL_nil ?_
    (repeat (first | (with_reducible refine R_seq ?_) | (with_reducible refine R_block_normal ?_)))
    (repeat (with_reducible refine G_seq ?_))
    refine G_block ?_
    (repeat (with_reducible refine G_seq ?_))
    refine G_loop (ι := Nat) (fun i => r1.length - i) (fun i => i ≤ r1.length ∧ (∀ q, q < i → r1[q]? = r2[q]?)) (fun i => [(0, .slice ao r1.length c), (1, .slice ao2 r2.length c2), (4, .bool false), (5, .int .i64 (i : Int))]) (fun i => []) 0 ?_ (⟨by first | rfl | decide, by first | rfl | decide, by first | rfl | decide, by first | rfl | decide, trivial⟩) (by repeat (first | exact .nil | exact Pick.rfl' _ | exact Pick.skip (Pick.rfl' _) | exact Pick.skip (Pick.skip (Pick.rfl' _)) | (apply Pick.cons; focus (first | exact .head | exact (.tail .head) | exact (.tail (.tail .head)) | exact (.tail (.tail (.tail .head))) | exact (.tail (.tail (.tail (.tail .head)))) | exact (.tail (.tail (.tail (.tail (.tail .head))))) | exact (.tail (.tail (.tail (.tail (.tail (.tail .head)))))) | exact (.tail (.tail (.tail (.tail (.tail (.tail (.tail .head))))))) | exact (.tail (.tail (.tail (.tail (.tail (.tail (.tail (.tail .head)))))))) | exact (.tail (.tail (.tail (.tail (.tail (.tail (.tail (.tail (.tail .head))))))))) | exact (.tail (.tail (.tail (.tail (.tail (.tail (.tail (.tail (.tail (.tail .head)))))))))) | exact (.tail (.tail (.tail (.tail (.tail (.tail (.tail (.tail (.tail (.tail (.tail .head))))))))))) | exact (.tail (.tail (.tail (.tail (.tail (.tail (.tail (.tail (.tail (.tail (.tail (.tail .head)))))))))))) | exact (.tail (.tail (.tail (.tail (.tail (.tail (.tail (.tail (.tail (.tail (.tail (.tail (.tail .head))))))))))))))))) ?_
    · exact ⟨by omega, fun q h => by omega⟩
    intro i ⟨hi, hinv⟩
    (repeat (with_reducible refine G_seq ?_))
    refine G_region ?_
    refine GL_y rfl rfl (Y_move rfl) ?_
    refine GL_y rfl rfl (Y_move rfl) ?_
    refine GL_y rfl rfl (Y_len sl22 rfl) ?_
    refine GL_y rfl rfl (Y_lssN rfl rfl) ?_
    refine GL_nil ?_
    (repeat (first | (with_reducible refine R_seq ?_) | (with_reducible refine R_block_normal ?_)))
    (repeat (with_reducible refine G_seq ?_))
    refine G_cond_dec rfl (fun ht14 => ?_) (fun ht14 => ?_)
    · -- yes
      (repeat (with_reducible refine G_seq ?_))
      refine G_skip ?_
      (repeat (first | (with_reducible refine R_seq ?_) | (with_reducible refine R_block_normal ?_)))
      (repeat (with_reducible refine G_seq ?_))
      refine G_block ?_
      obtain ⟨k, hk⟩ : ∃ k, r1[i]? = some k := ⟨r1[i], List.getElem?_eq_getElem ht14⟩
      obtain ⟨k2, hk2⟩ : ∃ k, r2[i]? = some k := ⟨r2[i], List.getElem?_eq_getElem (by omega)⟩
      (repeat (with_reducible refine G_seq ?_))
      refine G_draw [] 9 rfl (by kernel_rfl) ?_
      refine GA_y 0 rfl (by kernel_rfl) (by kernel_rfl) (by kernel_rfl) (fun _ _ _ h => h) rfl rfl rfl (Y_move rfl) ?_
      refine GA_y 1 rfl (by kernel_rfl) (by kernel_rfl) (by kernel_rfl) (fun _ _ _ h => h) rfl rfl rfl (Y_move rfl) ?_
      refine GA_y 2 rfl (by kernel_rfl) (by kernel_rfl) (by kernel_rfl) (fun _ _ _ h => h) rfl rfl rfl (Y_rAt hs rfl rfl hk rfl) ?_
      refine GA_y 3 rfl (by kernel_rfl) (by kernel_rfl) (by kernel_rfl) (fun _ _ _ h => h) rfl rfl rfl (Y_rKey hs (by simp) rfl hk) ?_
      refine GA_y 4 rfl (by kernel_rfl) (by kernel_rfl) (by kernel_rfl) (fun _ _ _ h => h) rfl rfl rfl (Y_move rfl) ?_
      refine GA_y 5 rfl (by kernel_rfl) (by kernel_rfl) (by kernel_rfl) (fun _ _ _ h => h) rfl rfl rfl (Y_move rfl) ?_
      refine GA_y 6 rfl (by kernel_rfl) (by kernel_rfl) (by kernel_rfl) (fun _ _ _ h => h) rfl rfl rfl (Y_rAt hs2 rfl rfl hk2 rfl) ?_
      refine GA_y 7 rfl (by kernel_rfl) (by kernel_rfl) (by kernel_rfl) (fun _ _ _ h => h) rfl rfl rfl (Y_rKey hs2 (by simp) rfl hk2) ?_
      refine GA_y 8 rfl (by kernel_rfl) (by kernel_rfl) (by kernel_rfl) (fun _ _ _ h => h) rfl rfl rfl (Y_neqKey rfl rfl) ?_
      refine GA_done (by kernel_rfl) ?_
      (repeat (first | (with_reducible refine R_seq ?_) | (with_reducible refine R_block_normal ?_)))
      (repeat (with_reducible refine G_seq ?_))
      refine G_cond rfl (fun h25 => ?_) (fun h25 => ?_)
      · -- yes
        simp at h25
        (repeat (with_reducible refine G_seq ?_))
        refine G_region ?_
        refine GL_y rfl rfl (Y_assign rfl) ?_
        refine GL_nil ?_
        (repeat (first | (with_reducible refine R_seq ?_) | (with_reducible refine R_block_normal ?_)))
        (repeat (with_reducible refine G_seq ?_))
        refine G_ret ?_
        (repeat (first | (with_reducible refine R_then_ret ?_) | (with_reducible refine R_block_ret ?_)))
        refine R_ret (.tmp rfl .nil) [] .nil ⟨congrArg Value.bool ?_, rfl⟩
        exact (decide_eq_false fun e => h25 (by rw [e, hk2] at hk; injection hk with hk; exact hk.symm)).symm
      · -- no
        simp at h25
        (repeat (with_reducible refine G_seq ?_))
        refine G_skip ?_
        (repeat (first | (with_reducible refine R_seq ?_) | (with_reducible refine R_block_normal ?_)))
        (repeat (with_reducible refine G_seq ?_))
        refine G_region ?_
        refine GL_y rfl rfl (Y_move rfl) ?_
        refine GL_y rfl rfl (Y_addN (b := 1) rfl rfl (by first | omega | decide)) ?_
        refine GL_y rfl rfl (Y_assign rfl) ?_
        refine GL_nil ?_
        (repeat (first | (with_reducible refine R_seq ?_) | (with_reducible refine R_block_normal ?_)))
        (repeat (with_reducible refine R_block_normal ?_))
        refine R_fam (i + 1) ?_ (⟨by first | rfl | decide, by first | rfl | decide, by first | rfl | decide, by first | rfl | decide, trivial⟩) (by repeat (first | exact .nil | exact Pick.rfl' _ | exact Pick.skip (Pick.rfl' _) | exact Pick.skip (Pick.skip (Pick.rfl' _)) | (apply Pick.cons; focus (first | exact .head | exact (.tail .head) | exact (.tail (.tail .head)) | exact (.tail (.tail (.tail .head))) | exact (.tail (.tail (.tail (.tail .head)))) | exact (.tail (.tail (.tail (.tail (.tail .head))))) | exact (.tail (.tail (.tail (.tail (.tail (.tail .head)))))) | exact (.tail (.tail (.tail (.tail (.tail (.tail (.tail .head))))))) | exact (.tail (.tail (.tail (.tail (.tail (.tail (.tail (.tail .head)))))))) | exact (.tail (.tail (.tail (.tail (.tail (.tail (.tail (.tail (.tail .head))))))))) | exact (.tail (.tail (.tail (.tail (.tail (.tail (.tail (.tail (.tail (.tail .head)))))))))) | exact (.tail (.tail (.tail (.tail (.tail (.tail (.tail (.tail (.tail (.tail (.tail .head))))))))))) | exact (.tail (.tail (.tail (.tail (.tail (.tail (.tail (.tail (.tail (.tail (.tail (.tail .head)))))))))))) | exact (.tail (.tail (.tail (.tail (.tail (.tail (.tail (.tail (.tail (.tail (.tail (.tail (.tail .head)))))))))))))))))
        refine ⟨⟨by omega, fun q hq => ?_⟩, by omega⟩
        by_cases hqe : q = i
        · subst hqe; rw [hk, hk2, h25]
        · exact hinv q (by omega)
    · -- no
      (repeat (with_reducible refine G_seq ?_))
      refine G_exit ?_
      (repeat (first | (with_reducible refine R_then_exit ?_) | (with_reducible refine R_block_exit ?_) | (with_reducible refine R_block_other (by decide) ?_)))
      (repeat (first | (with_reducible refine R_seq ?_) | (with_reducible refine R_block_normal ?_)))
      (repeat (with_reducible refine G_seq ?_))
      refine G_region ?_
      refine GL_y rfl rfl (Y_assign rfl) ?_
      refine GL_nil ?_
      (repeat (first | (with_reducible refine R_seq ?_) | (with_reducible refine R_block_normal ?_)))
      (repeat (with_reducible refine G_seq ?_))
      refine G_ret ?_
      (repeat (first | (with_reducible refine R_then_ret ?_) | (with_reducible refine R_block_ret ?_)))
      refine R_ret (.tmp rfl .nil) [] .nil ⟨congrArg Value.bool ?_, rfl⟩
      exact (decide_eq_true (List.ext_getElem? fun q => by
        by_cases hq : q < i
        · exact hinv q hq
        · rw [List.getElem?_eq_none (by omega), List.getElem?_eq_none (by omega)])).symm
end Go.Proofs.Ytkdodpcafamhaaa

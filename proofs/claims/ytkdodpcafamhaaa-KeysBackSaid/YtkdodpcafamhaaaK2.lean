/-
  Places, found keys, revoked keys.
-/
import Derived.Test.YtkdodpcafamhaaaK1
import Derived.Test.YtkdodpcafamhaaaKE
import Derived.Test.YtkdodpcafamhaaaSlB
namespace Go.Proofs.Ytkdodpcafamhaaa
open Go Go.Sl Go.RowKit

theorem isNaN_is {x : Int} {w : World} : FnAt Try.prog 29 [.int .i64 x] [] w (Ret fun v N => v = .bool false ∧ N = []) := by
  refine FnAt.intro Try.func29 rfl Try.ntmps29 rfl _ rfl ?_
  (repeat (with_reducible refine G_seq ?_))
  refine G_region ?_
  refine GL_y rfl rfl (Y_assign rfl) ?_
  refine GL_nil ?_
  (repeat (first | (with_reducible refine R_seq ?_) | (with_reducible refine R_block_normal ?_)))
  (repeat (with_reducible refine G_seq ?_))
  refine G_region ?_
  refine GL_y rfl rfl (Y_move rfl) ?_
  refine GL_y rfl rfl (Y_move rfl) ?_
  refine GL_y rfl rfl (Y_iop rfl rfl rfl) ?_
  refine GL_y rfl rfl (Y_assign rfl) ?_
  refine GL_nil ?_
  (repeat (first | (with_reducible refine R_seq ?_) | (with_reducible refine R_block_normal ?_)))
  (repeat (with_reducible refine G_seq ?_))
  refine G_ret ?_
  (repeat (first | (with_reducible refine R_then_ret ?_) | (with_reducible refine R_block_ret ?_)))
  refine R_ret (.tmp rfl .nil) [] .nil ⟨by simp [pack], rfl⟩
theorem cmp_is {x y : Int} {w : World} : FnAt Try.prog 28 [.int .i64 x, .int .i64 y] [] w (Ret fun v N => v = .int .i64 (cmpI x y) ∧ N = []) := by
  refine FnAt.intro Try.func28 rfl Try.ntmps28 rfl _ rfl ?_
  (repeat (with_reducible refine G_seq ?_))
  refine G_region ?_
  refine GL_y rfl rfl (Y_assign rfl) ?_
  refine GL_nil ?_
  (repeat (first | (with_reducible refine R_seq ?_) | (with_reducible refine R_block_normal ?_)))
  (repeat (with_reducible refine G_seq ?_))
  refine G_region ?_
  refine GL_y rfl rfl (Y_move rfl) ?_
  refine GL_call rfl rfl rfl rfl Try.call29 .nil (fun w hw => isNaN_is) ?_
  rintro _ _ ⟨rfl, rfl⟩
  refine GL_y rfl rfl (Y_assign rfl) ?_
  refine GL_nil ?_
  (repeat (first | (with_reducible refine R_seq ?_) | (with_reducible refine R_block_normal ?_)))
  (repeat (with_reducible refine G_seq ?_))
  refine G_region ?_
  refine GL_y rfl rfl (Y_move rfl) ?_
  refine GL_call rfl rfl rfl rfl Try.call29 .nil (fun w hw => isNaN_is) ?_
  rintro _ _ ⟨rfl, rfl⟩
  refine GL_y rfl rfl (Y_assign rfl) ?_
  refine GL_nil ?_
  (repeat (first | (with_reducible refine R_seq ?_) | (with_reducible refine R_block_normal ?_)))
  (repeat (with_reducible refine G_seq ?_))
  refine G_region ?_
  refine GL_y rfl rfl (Y_move rfl) ?_
  refine GL_nil ?_
  (repeat (first | (with_reducible refine R_seq ?_) | (with_reducible refine R_block_normal ?_)))
  (repeat (with_reducible refine G_seq ?_))
  refine G_cond_f rfl (by first | rfl | decide | (simp; done) | (simp; omega)) ?_
  (repeat (with_reducible refine G_seq ?_))
  refine G_skip ?_
  (repeat (first | (with_reducible refine R_seq ?_) | (with_reducible refine R_block_normal ?_)))
  (repeat (with_reducible refine G_seq ?_))
  refine G_region ?_
  refine GL_y rfl rfl (Y_move rfl) ?_
  refine GL_nil ?_
  (repeat (first | (with_reducible refine R_seq ?_) | (with_reducible refine R_block_normal ?_)))
  (repeat (with_reducible refine G_seq ?_))
  refine G_cond_f rfl (by first | rfl | decide | (simp; done) | (simp; omega)) ?_
  (repeat (with_reducible refine G_seq ?_))
  refine G_skip ?_
  (repeat (first | (with_reducible refine R_seq ?_) | (with_reducible refine R_block_normal ?_)))
  (repeat (with_reducible refine G_seq ?_))
  refine G_region ?_
  refine GL_y rfl rfl (Y_move rfl) ?_
  refine GL_y rfl rfl (Y_move rfl) ?_
  refine GL_y rfl rfl (Y_iop rfl rfl rfl) ?_
  refine GL_nil ?_
  (repeat (first | (with_reducible refine R_seq ?_) | (with_reducible refine R_block_normal ?_)))
  (repeat (with_reducible refine G_seq ?_))
  refine G_cond_dec rfl (fun ht16 => ?_) (fun ht16 => ?_)
  · -- yes
    (repeat (with_reducible refine G_seq ?_))
    refine G_region ?_
    refine GL_y rfl rfl (Y_assign rfl) ?_
    refine GL_nil ?_
    (repeat (first | (with_reducible refine R_seq ?_) | (with_reducible refine R_block_normal ?_)))
    (repeat (with_reducible refine G_seq ?_))
    refine G_ret ?_
    (repeat (first | (with_reducible refine R_then_ret ?_) | (with_reducible refine R_block_ret ?_)))
    refine R_ret (.tmp rfl .nil) [] .nil ⟨by simp [pack, cmpI, ht16], rfl⟩
  · -- no
    (repeat (with_reducible refine G_seq ?_))
    refine G_skip ?_
    (repeat (first | (with_reducible refine R_seq ?_) | (with_reducible refine R_block_normal ?_)))
    (repeat (with_reducible refine G_seq ?_))
    refine G_region ?_
    refine GL_y rfl rfl (Y_move rfl) ?_
    refine GL_y rfl rfl (Y_move rfl) ?_
    refine GL_y rfl rfl (Y_iop rfl rfl rfl) ?_
    refine GL_nil ?_
    (repeat (first | (with_reducible refine R_seq ?_) | (with_reducible refine R_block_normal ?_)))
    (repeat (with_reducible refine G_seq ?_))
    refine G_cond_dec rfl (fun ht19 => ?_) (fun ht19 => ?_)
    · -- yes
      (repeat (with_reducible refine G_seq ?_))
      refine G_region ?_
      refine GL_y rfl rfl (Y_assign rfl) ?_
      refine GL_nil ?_
      (repeat (first | (with_reducible refine R_seq ?_) | (with_reducible refine R_block_normal ?_)))
      (repeat (with_reducible refine G_seq ?_))
      refine G_ret ?_
      (repeat (first | (with_reducible refine R_then_ret ?_) | (with_reducible refine R_block_ret ?_)))
      refine R_ret (.tmp rfl .nil) [] .nil ⟨by simp only [pack, cmpI, if_neg ht16, if_pos ht19], rfl⟩
    · -- no
      (repeat (with_reducible refine G_seq ?_))
      refine G_skip ?_
      (repeat (first | (with_reducible refine R_seq ?_) | (with_reducible refine R_block_normal ?_)))
      (repeat (with_reducible refine G_seq ?_))
      refine G_region ?_
      refine GL_y rfl rfl (Y_assign rfl) ?_
      refine GL_nil ?_
      (repeat (first | (with_reducible refine R_seq ?_) | (with_reducible refine R_block_normal ?_)))
      (repeat (with_reducible refine G_seq ?_))
      refine G_ret ?_
      (repeat (first | (with_reducible refine R_then_ret ?_) | (with_reducible refine R_block_ret ?_)))
      refine R_ret (.tmp rfl .nil) [] .nil ⟨by simp only [pack, cmpI, if_neg ht16, if_neg ht19], rfl⟩
theorem place1_is {k : KeyD} {y : Int} {w : World} : FnAt Try.prog 27 [.agg (keyL k).toArray, .int .i64 y] [] w (Ret fun v N => v = .int .i64 (cmpI k.num y) ∧ N = []) := by
  refine FnAt.intro Try.func27 rfl Try.ntmps27 rfl _ rfl ?_
  (repeat (with_reducible refine G_seq ?_))
  refine G_region ?_
  refine GL_w rfl rfl (W_boxA rfl fun b2 => ?_)
  refine GL_y rfl rfl (Y_assign rfl) ?_
  refine GL_nil ?_
  (repeat (first | (with_reducible refine R_seq ?_) | (with_reducible refine R_block_normal ?_)))
  (repeat (with_reducible refine G_seq ?_))
  refine G_region ?_
  refine GL_y rfl rfl (Y_field fd39_0 rfl) ?_
  refine GL_y rfl rfl (Y_loadS rfl sc3 (by first | exact .head _ | exact .tail _ (.head _) | exact .tail _ (.tail _ (.head _)) | exact .tail _ (.tail _ (.tail _ (.head _))) | exact .tail _ (.tail _ (.tail _ (.tail _ (.head _)))) | exact .tail _ (.tail _ (.tail _ (.tail _ (.tail _ (.head _))))) | exact .tail _ (.tail _ (.tail _ (.tail _ (.tail _ (.tail _ (.head _)))))) | exact .tail _ (.tail _ (.tail _ (.tail _ (.tail _ (.tail _ (.tail _ (.head _))))))) | exact .tail _ (.tail _ (.tail _ (.tail _ (.tail _ (.tail _ (.tail _ (.tail _ (.head _)))))))) | exact .tail _ (.tail _ (.tail _ (.tail _ (.tail _ (.tail _ (.tail _ (.tail _ (.tail _ (.head _))))))))) | exact .tail _ (.tail _ (.tail _ (.tail _ (.tail _ (.tail _ (.tail _ (.tail _ (.tail _ (.tail _ (.head _)))))))))) | exact .tail _ (.tail _ (.tail _ (.tail _ (.tail _ (.tail _ (.tail _ (.tail _ (.tail _ (.tail _ (.tail _ (.head _))))))))))) | exact .tail _ (.tail _ (.tail _ (.tail _ (.tail _ (.tail _ (.tail _ (.tail _ (.tail _ (.tail _ (.tail _ (.tail _ (.head _)))))))))))) | exact .tail _ (.tail _ (.tail _ (.tail _ (.tail _ (.tail _ (.tail _ (.tail _ (.tail _ (.tail _ (.tail _ (.tail _ (.tail _ (.head _)))))))))))))) (by rfl)) ?_
  refine GL_y rfl rfl (Y_move rfl) ?_
  refine GL_call rfl rfl rfl rfl Try.call28 .nil (fun w hw => cmp_is) ?_
  rintro _ _ ⟨rfl, rfl⟩
  refine GL_y rfl rfl (Y_assign rfl) ?_
  refine GL_nil ?_
  (repeat (first | (with_reducible refine R_seq ?_) | (with_reducible refine R_block_normal ?_)))
  (repeat (with_reducible refine G_seq ?_))
  refine G_ret ?_
  (repeat (first | (with_reducible refine R_then_ret ?_) | (with_reducible refine R_block_ret ?_)))
  refine R_ret (.tmp rfl .nil) [] .nil ⟨rfl, rfl⟩
set_option maxHeartbeats 4000000 in
theorem search_is {ao : Option Addr} {c : Nat} {ring : List KeyD} {l x : Int} {w : World} (hs : SlAt w ao (ringL ring)) (hlen : ring.length ≤ 1000) (ha : ascB l ring = true) :
    FnAt Try.prog 26 [.slice ao ring.length c, .int .i64 x, .func (.func 27) #[] #[]] [] w (Ret fun v N => N = [] ∧ ((∃ i : Nat, posD ring x = some i ∧ v = .tuple #[.int .i64 (i : Int), .bool true]) ∨ (posD ring x = none ∧ ∃ i : Nat, v = .tuple #[.int .i64 (i : Int), .bool false]))) := by
  refine FnAt.intro Try.func26 rfl Try.ntmps26 rfl _ rfl ?_
  (repeat (with_reducible refine G_seq ?_))
  refine G_region ?_
  refine GL_y rfl rfl (Y_assign rfl) ?_
  refine GL_y rfl rfl (Y_assign rfl) ?_
  refine GL_nil ?_
  (repeat (first | (with_reducible refine R_seq ?_) | (with_reducible refine R_block_normal ?_)))
  (repeat (with_reducible refine G_seq ?_))
  refine G_region ?_
  refine GL_y rfl rfl (Y_move rfl) ?_
  refine GL_y rfl rfl (Y_len sl22 rfl) ?_
  refine GL_y rfl rfl (Y_assign rfl) ?_
  refine GL_nil ?_
  (repeat (first | (with_reducible refine R_seq ?_) | (with_reducible refine R_block_normal ?_)))
  (repeat (with_reducible refine G_seq ?_))
  refine G_region ?_
  refine GL_y rfl rfl (Y_move rfl) ?_
  refine GL_y rfl rfl (Y_assign rfl) ?_
  refine GL_y rfl rfl (Y_assign rfl) ?_
  refine GL_nil ?_
  (repeat (first | (with_reducible refine R_seq ?_) | (with_reducible refine R_block_normal ?_)))
  (repeat (with_reducible refine G_seq ?_))
  refine G_block ?_
  (repeat (with_reducible refine G_seq ?_))
  refine G_loop (ι := Nat × Nat) (fun i => i.2 - i.1) (fun i => i.1 ≤ i.2 ∧ i.2 ≤ ring.length ∧ (∀ (q : Nat) k, ring[q]? = some k → q < i.1 → k.num < x) ∧ (∀ (q : Nat) k, ring[q]? = some k → i.2 ≤ q → x ≤ k.num)) (fun i => [(0, .slice ao ring.length c), (1, .int .i64 x), (2, .func (.func 27) #[] #[]), (6, .int .i64 0), (7, .bool false), (8, .int .i64 (ring.length : Int)), (9, .int .i64 (i.1 : Int)), (10, .int .i64 (i.2 : Int))]) (fun i => []) (0, ring.length) ?_ (⟨by first | rfl | decide, by first | rfl | decide, by first | rfl | decide, by first | rfl | decide, by first | rfl | decide, by first | rfl | decide, by first | rfl | decide, by first | rfl | decide, trivial⟩) (by repeat (first | exact .nil | exact Pick.rfl' _ | exact Pick.skip (Pick.rfl' _) | exact Pick.skip (Pick.skip (Pick.rfl' _)) | (apply Pick.cons; focus (first | exact .head | exact (.tail .head) | exact (.tail (.tail .head)) | exact (.tail (.tail (.tail .head))) | exact (.tail (.tail (.tail (.tail .head)))) | exact (.tail (.tail (.tail (.tail (.tail .head))))) | exact (.tail (.tail (.tail (.tail (.tail (.tail .head)))))) | exact (.tail (.tail (.tail (.tail (.tail (.tail (.tail .head))))))) | exact (.tail (.tail (.tail (.tail (.tail (.tail (.tail (.tail .head)))))))) | exact (.tail (.tail (.tail (.tail (.tail (.tail (.tail (.tail (.tail .head))))))))) | exact (.tail (.tail (.tail (.tail (.tail (.tail (.tail (.tail (.tail (.tail .head)))))))))) | exact (.tail (.tail (.tail (.tail (.tail (.tail (.tail (.tail (.tail (.tail (.tail .head))))))))))) | exact (.tail (.tail (.tail (.tail (.tail (.tail (.tail (.tail (.tail (.tail (.tail (.tail .head)))))))))))) | exact (.tail (.tail (.tail (.tail (.tail (.tail (.tail (.tail (.tail (.tail (.tail (.tail (.tail .head))))))))))))))))) ?_
  · exact ⟨by simp, by simp, fun q k _ h => by simp at h, fun q k hq h => by have := (List.getElem?_eq_some_iff.1 hq).1; simp only at h; omega⟩
  intro i ⟨hi1, hi2, hi3, hi4⟩
  (repeat (with_reducible refine G_seq ?_))
  refine G_region ?_
  refine GL_y rfl rfl (Y_move rfl) ?_
  refine GL_y rfl rfl (Y_move rfl) ?_
  refine GL_y rfl rfl (Y_lssN rfl rfl) ?_
  refine GL_nil ?_
  (repeat (first | (with_reducible refine R_seq ?_) | (with_reducible refine R_block_normal ?_)))
  (repeat (with_reducible refine G_seq ?_))
  refine G_cond_dec rfl (fun ht17 => ?_) (fun ht17 => ?_)
  · -- yes
    (repeat (with_reducible refine G_seq ?_))
    refine G_skip ?_
    (repeat (first | (with_reducible refine R_seq ?_) | (with_reducible refine R_block_normal ?_)))
    (repeat (with_reducible refine G_seq ?_))
    refine G_block ?_
    (repeat (with_reducible refine G_seq ?_))
    refine G_region ?_
    refine GL_y rfl rfl (Y_move rfl) ?_
    refine GL_y rfl rfl (Y_move rfl) ?_
    refine GL_y rfl rfl (Y_addN rfl rfl (by first | omega | decide)) ?_
    refine GL_y rfl rfl (Y_cvtN Try.underlying3 Try.underlying52 rfl (by first | (left; simp only [IntKind.bits]; omega) | (right; exact ⟨rfl, by simp only [IntKind.bits]; omega⟩))) ?_
    refine GL_y rfl rfl (Y_shrN (b := 1) rfl rfl (by decide)) ?_
    refine GL_y rfl rfl (Y_cvtN Try.underlying52 Try.underlying3 rfl (by first | (left; simp only [IntKind.bits]; omega) | (right; exact ⟨rfl, by simp only [IntKind.bits]; omega⟩))) ?_
    refine GL_y rfl rfl (Y_assign rfl) ?_
    refine GL_nil ?_
    (repeat (first | (with_reducible refine R_seq ?_) | (with_reducible refine R_block_normal ?_)))
    obtain ⟨kd, hk⟩ : ∃ k, ring[(i.1 + i.2) / 2 ^ 1]? = some k := ⟨ring[(i.1 + i.2) / 2 ^ 1], List.getElem?_eq_getElem (by omega)⟩
    (repeat (with_reducible refine G_seq ?_))
    refine G_region ?_
    refine GL_y rfl rfl (Y_move rfl) ?_
    refine GL_y rfl rfl (Y_move rfl) ?_
    refine GL_y rfl rfl (Y_move rfl) ?_
    refine GL_y rfl rfl (Y_rAt hs rfl rfl hk rfl) ?_
    refine GL_y rfl rfl (Y_rKey hs (by simp) rfl hk) ?_
    refine GL_y rfl rfl (Y_move rfl) ?_
    refine GL_call rfl rfl rfl rfl Try.call27 .nil (fun w hw => place1_is (k := kd)) ?_
    rintro _ _ ⟨rfl, rfl⟩
    refine GL_y rfl rfl (Y_iop rfl rfl rfl) ?_
    refine GL_nil ?_
    (repeat (first | (with_reducible refine R_seq ?_) | (with_reducible refine R_block_normal ?_)))
    (repeat (with_reducible refine G_seq ?_))
    refine G_cond_dec rfl (fun h31 => ?_) (fun h31 => ?_)
    · -- yes
      (repeat (with_reducible refine G_seq ?_))
      refine G_region ?_
      refine GL_y rfl rfl (Y_move rfl) ?_
      refine GL_y rfl rfl (Y_addN (b := 1) rfl rfl (by first | omega | decide)) ?_
      refine GL_y rfl rfl (Y_assign rfl) ?_
      refine GL_nil ?_
      (repeat (first | (with_reducible refine R_seq ?_) | (with_reducible refine R_block_normal ?_)))
      (repeat (with_reducible refine R_block_normal ?_))
      skip
      refine R_fam ((i.1 + i.2) / 2 ^ 1 + 1, i.2) ?_ (⟨by first | rfl | decide, by first | rfl | decide, by first | rfl | decide, by first | rfl | decide, by first | rfl | decide, by first | rfl | decide, by first | rfl | decide, by first | rfl | decide, trivial⟩) (by repeat (first | exact .nil | exact Pick.rfl' _ | exact Pick.skip (Pick.rfl' _) | exact Pick.skip (Pick.skip (Pick.rfl' _)) | (apply Pick.cons; focus (first | exact .head | exact (.tail .head) | exact (.tail (.tail .head)) | exact (.tail (.tail (.tail .head))) | exact (.tail (.tail (.tail (.tail .head)))) | exact (.tail (.tail (.tail (.tail (.tail .head))))) | exact (.tail (.tail (.tail (.tail (.tail (.tail .head)))))) | exact (.tail (.tail (.tail (.tail (.tail (.tail (.tail .head))))))) | exact (.tail (.tail (.tail (.tail (.tail (.tail (.tail (.tail .head)))))))) | exact (.tail (.tail (.tail (.tail (.tail (.tail (.tail (.tail (.tail .head))))))))) | exact (.tail (.tail (.tail (.tail (.tail (.tail (.tail (.tail (.tail (.tail .head)))))))))) | exact (.tail (.tail (.tail (.tail (.tail (.tail (.tail (.tail (.tail (.tail (.tail .head))))))))))) | exact (.tail (.tail (.tail (.tail (.tail (.tail (.tail (.tail (.tail (.tail (.tail (.tail .head)))))))))))) | exact (.tail (.tail (.tail (.tail (.tail (.tail (.tail (.tail (.tail (.tail (.tail (.tail (.tail .head)))))))))))))))))
      have hc : kd.num < x := by
        unfold cmpI at h31; split at h31
        · assumption
        · split at h31 <;> omega
      refine ⟨⟨by simp only; omega, hi2, fun q k hq h => ?_, hi4⟩, by simp only; omega⟩
      by_cases hqe : q = (i.1 + i.2) / 2 ^ 1
      · subst hqe; rw [hk] at hq; injection hq with hq; subst hq; exact hc
      · have := asc_lt ha hq hk (by simp only at h; omega); omega
    · -- no
      (repeat (with_reducible refine G_seq ?_))
      refine G_region ?_
      refine GL_y rfl rfl (Y_move rfl) ?_
      refine GL_y rfl rfl (Y_assign rfl) ?_
      refine GL_nil ?_
      (repeat (first | (with_reducible refine R_seq ?_) | (with_reducible refine R_block_normal ?_)))
      (repeat (with_reducible refine R_block_normal ?_))
      skip
      refine R_fam (i.1, (i.1 + i.2) / 2 ^ 1) ?_ (⟨by first | rfl | decide, by first | rfl | decide, by first | rfl | decide, by first | rfl | decide, by first | rfl | decide, by first | rfl | decide, by first | rfl | decide, by first | rfl | decide, trivial⟩) (by repeat (first | exact .nil | exact Pick.rfl' _ | exact Pick.skip (Pick.rfl' _) | exact Pick.skip (Pick.skip (Pick.rfl' _)) | (apply Pick.cons; focus (first | exact .head | exact (.tail .head) | exact (.tail (.tail .head)) | exact (.tail (.tail (.tail .head))) | exact (.tail (.tail (.tail (.tail .head)))) | exact (.tail (.tail (.tail (.tail (.tail .head))))) | exact (.tail (.tail (.tail (.tail (.tail (.tail .head)))))) | exact (.tail (.tail (.tail (.tail (.tail (.tail (.tail .head))))))) | exact (.tail (.tail (.tail (.tail (.tail (.tail (.tail (.tail .head)))))))) | exact (.tail (.tail (.tail (.tail (.tail (.tail (.tail (.tail (.tail .head))))))))) | exact (.tail (.tail (.tail (.tail (.tail (.tail (.tail (.tail (.tail (.tail .head)))))))))) | exact (.tail (.tail (.tail (.tail (.tail (.tail (.tail (.tail (.tail (.tail (.tail .head))))))))))) | exact (.tail (.tail (.tail (.tail (.tail (.tail (.tail (.tail (.tail (.tail (.tail (.tail .head)))))))))))) | exact (.tail (.tail (.tail (.tail (.tail (.tail (.tail (.tail (.tail (.tail (.tail (.tail (.tail .head)))))))))))))))))
      have hc : x ≤ kd.num := by
        unfold cmpI at h31; split at h31
        · omega
        · omega
      refine ⟨⟨by simp only; omega, by simp only; omega, hi3, fun q k hq h => ?_⟩, by simp only; omega⟩
      by_cases hqe : q = (i.1 + i.2) / 2 ^ 1
      · subst hqe; rw [hk] at hq; injection hq with hq; subst hq; exact hc
      · have := asc_lt ha hk hq (by simp only at h; omega); omega
  · -- no
    (repeat (with_reducible refine G_seq ?_))
    refine G_exit ?_
    (repeat (first | (with_reducible refine R_then_exit ?_) | (with_reducible refine R_block_exit ?_) | (with_reducible refine R_block_other (by decide) ?_)))
    (repeat (first | (with_reducible refine R_seq ?_) | (with_reducible refine R_block_normal ?_)))
    (repeat (with_reducible refine G_seq ?_))
    refine G_region ?_
    refine GL_y rfl rfl (Y_move rfl) ?_
    refine GL_y rfl rfl (Y_move rfl) ?_
    refine GL_y rfl rfl (Y_move rfl) ?_
    refine GL_y rfl rfl (Y_lssN rfl rfl) ?_
    refine GL_y rfl rfl (Y_move rfl) ?_
    refine GL_bool 39 rfl (fun hd => ?_) (fun hd => ?_)
    · -- True
      have h39 := of_decide_eq_true hd
      obtain ⟨kd, hk⟩ : ∃ k, ring[i.1]? = some k := ⟨ring[i.1], List.getElem?_eq_getElem h39⟩
      refine GL_y rfl rfl (Y_move rfl) ?_
      refine GL_y rfl rfl (Y_move rfl) ?_
      refine GL_y rfl rfl (Y_move rfl) ?_
      refine GL_y rfl rfl (Y_rAt hs rfl rfl hk rfl) ?_
      refine GL_y rfl rfl (Y_rKey hs (by simp) rfl hk) ?_
      refine GL_y rfl rfl (Y_move rfl) ?_
      refine GL_call rfl rfl rfl rfl Try.call27 .nil (fun w hw => place1_is (k := kd)) ?_
      rintro _ _ ⟨rfl, rfl⟩
      refine GL_y rfl rfl (Y_iop rfl rfl rfl) ?_
      refine GL_y rfl rfl (Y_pick rfl rfl rfl rfl) ?_
      refine GL_y rfl rfl (Y_assign rfl) ?_
      refine GL_y rfl rfl (Y_assign rfl) ?_
      refine GL_nil ?_
      (repeat (first | (with_reducible refine R_seq ?_) | (with_reducible refine R_block_normal ?_)))
      (repeat (with_reducible refine G_seq ?_))
      refine G_ret ?_
      (repeat (first | (with_reducible refine R_then_ret ?_) | (with_reducible refine R_block_ret ?_)))
      by_cases hx : kd.num = x
      · refine R_ret (.tmp rfl (.tmp rfl .nil)) [] .nil ⟨rfl, .inl ⟨i.1, posD_some ha hk hx, ?_⟩⟩
        simp [pack, cmpI, hx]
      · refine R_ret (.tmp rfl (.tmp rfl .nil)) [] .nil ⟨rfl, .inr ⟨posD_none fun q k hq => ?_, i.1, ?_⟩⟩
        · have h3 := hi4 i.1 kd hk (by omega)
          by_cases hqi : q < i.1
          · have := hi3 q k hq hqi; omega
          · by_cases hqe : q = i.1
            · subst hqe; rw [hk] at hq; injection hq with hq; subst hq; exact hx
            · have := asc_lt ha hk hq (by omega); omega
        · have h3 := hi4 i.1 kd hk (by omega)
          have hne : cmpI kd.num x ≠ 0 := by
            unfold cmpI; rw [if_neg (by omega), if_pos (by omega)]; decide
          simp [pack, hne]
    · -- False
      have h39 := of_decide_eq_false hd
      refine GL_skip rfl rfl ?_
      refine GL_skip rfl rfl ?_
      refine GL_skip rfl rfl ?_
      refine GL_skip rfl rfl ?_
      refine GL_skip rfl rfl ?_
      refine GL_skip rfl rfl ?_
      refine GL_skip rfl rfl ?_
      refine GL_skip rfl rfl ?_
      refine GL_y rfl rfl (Y_pick rfl rfl rfl rfl) ?_
      refine GL_y rfl rfl (Y_assign rfl) ?_
      refine GL_y rfl rfl (Y_assign rfl) ?_
      refine GL_nil ?_
      (repeat (first | (with_reducible refine R_seq ?_) | (with_reducible refine R_block_normal ?_)))
      (repeat (with_reducible refine G_seq ?_))
      refine G_ret ?_
      (repeat (first | (with_reducible refine R_then_ret ?_) | (with_reducible refine R_block_ret ?_)))
      refine R_ret (.tmp rfl (.tmp rfl .nil)) [] .nil ⟨rfl, .inr ⟨posD_none fun q k hq => ?_, i.1, rfl⟩⟩
      have := hi3 q k hq (by have := (List.getElem?_eq_some_iff.1 hq).1; omega); omega
set_option maxHeartbeats 4000000 in
theorem place_bad {ao : Option Addr} {c : Nat} {ring : List KeyD} {x : Int} {w : World} (hs : SlAt w ao (ringL ring)) (hlen : ring.length ≤ 1000) (hm : mayB ring = false) :
    FnAt Try.prog 21 [.slice ao ring.length c, .int .i64 x] [] w (Ret fun v N => v = .tuple #[.int .i64 0, .int .i64 1] ∧ N = []) := by
  refine FnAt.intro Try.func21 rfl Try.ntmps21 rfl _ rfl ?_
  (repeat (with_reducible refine G_seq ?_))
  refine G_region ?_
  refine GL_y rfl rfl (Y_assign rfl) ?_
  refine GL_y rfl rfl (Y_assign rfl) ?_
  refine GL_nil ?_
  (repeat (first | (with_reducible refine R_seq ?_) | (with_reducible refine R_block_normal ?_)))
  (repeat (with_reducible refine G_seq ?_))
  refine G_region ?_
  refine GL_y rfl rfl (Y_move rfl) ?_
  refine GL_call rfl rfl rfl rfl Try.call19 .nil (fun w hw => may_is (hs.keep hw (by simp)) hlen hm) ?_
  rintro _ _ ⟨rfl, rfl⟩
  refine GL_y rfl rfl (Y_not rfl) ?_
  refine GL_nil ?_
  (repeat (first | (with_reducible refine R_seq ?_) | (with_reducible refine R_block_normal ?_)))
  (repeat (with_reducible refine G_seq ?_))
  refine G_cond_t rfl (by first | rfl | decide | (simp; done) | (simp; omega)) ?_
  (repeat (with_reducible refine G_seq ?_))
  refine G_region ?_
  refine GL_y rfl rfl (Y_assign rfl) ?_
  refine GL_y rfl rfl (Y_assign rfl) ?_
  refine GL_nil ?_
  (repeat (first | (with_reducible refine R_seq ?_) | (with_reducible refine R_block_normal ?_)))
  (repeat (with_reducible refine G_seq ?_))
  refine G_ret ?_
  (repeat (first | (with_reducible refine R_then_ret ?_) | (with_reducible refine R_block_ret ?_)))
  refine R_ret (.tmp rfl (.tmp rfl .nil)) [] .nil ⟨rfl, rfl⟩
set_option maxHeartbeats 4000000 in
theorem place_no {ao : Option Addr} {c : Nat} {ring : List KeyD} {x : Int} {w : World} (hs : SlAt w ao (ringL ring)) (hlen : ring.length ≤ 1000) (hm : mayB ring = true) (hp : posD ring x = none) :
    FnAt Try.prog 21 [.slice ao ring.length c, .int .i64 x] [] w (Ret fun v N => v = .tuple #[.int .i64 0, .int .i64 190] ∧ N = []) := by
  refine FnAt.intro Try.func21 rfl Try.ntmps21 rfl _ rfl ?_
  (repeat (with_reducible refine G_seq ?_))
  refine G_region ?_
  refine GL_y rfl rfl (Y_assign rfl) ?_
  refine GL_y rfl rfl (Y_assign rfl) ?_
  refine GL_nil ?_
  (repeat (first | (with_reducible refine R_seq ?_) | (with_reducible refine R_block_normal ?_)))
  (repeat (with_reducible refine G_seq ?_))
  refine G_region ?_
  refine GL_y rfl rfl (Y_move rfl) ?_
  refine GL_call rfl rfl rfl rfl Try.call19 .nil (fun w hw => may_is (hs.keep hw (by simp)) hlen hm) ?_
  rintro _ _ ⟨rfl, rfl⟩
  refine GL_y rfl rfl (Y_not rfl) ?_
  refine GL_nil ?_
  (repeat (first | (with_reducible refine R_seq ?_) | (with_reducible refine R_block_normal ?_)))
  (repeat (with_reducible refine G_seq ?_))
  refine G_cond_f rfl (by first | rfl | decide | (simp; done) | (simp; omega)) ?_
  (repeat (with_reducible refine G_seq ?_))
  refine G_skip ?_
  (repeat (first | (with_reducible refine R_seq ?_) | (with_reducible refine R_block_normal ?_)))
  (repeat (with_reducible refine G_seq ?_))
  refine G_region ?_
  refine GL_y rfl rfl (Y_move rfl) ?_
  refine GL_y rfl rfl (Y_move rfl) ?_
  refine GL_call rfl rfl rfl rfl Try.call26 .nil (fun w hw => search_is (hs.keep hw (by simp)) hlen (may_asc hm)) ?_
  rintro _ _ ⟨rfl, ⟨i, h, _⟩ | ⟨_, i, rfl⟩⟩
  · rw [hp] at h; cases h
  refine GL_y rfl rfl (Y_move rfl) ?_
  refine GL_y rfl rfl (Y_extract rfl rfl) ?_
  refine GL_y rfl rfl (Y_extract rfl rfl) ?_
  refine GL_y rfl rfl (Y_assign rfl) ?_
  refine GL_y rfl rfl (Y_assign rfl) ?_
  refine GL_nil ?_
  (repeat (first | (with_reducible refine R_seq ?_) | (with_reducible refine R_block_normal ?_)))
  (repeat (with_reducible refine G_seq ?_))
  refine G_region ?_
  refine GL_y rfl rfl (Y_move rfl) ?_
  refine GL_y rfl rfl (Y_not rfl) ?_
  refine GL_nil ?_
  (repeat (first | (with_reducible refine R_seq ?_) | (with_reducible refine R_block_normal ?_)))
  (repeat (with_reducible refine G_seq ?_))
  refine G_cond_t rfl (by first | rfl | decide | (simp; done) | (simp; omega)) ?_
  (repeat (with_reducible refine G_seq ?_))
  refine G_region ?_
  refine GL_y rfl rfl (Y_assign rfl) ?_
  refine GL_y rfl rfl (Y_assign rfl) ?_
  refine GL_nil ?_
  (repeat (first | (with_reducible refine R_seq ?_) | (with_reducible refine R_block_normal ?_)))
  (repeat (with_reducible refine G_seq ?_))
  refine G_ret ?_
  (repeat (first | (with_reducible refine R_then_ret ?_) | (with_reducible refine R_block_ret ?_)))
  refine R_ret (.tmp rfl (.tmp rfl .nil)) [] .nil ⟨rfl, rfl⟩
set_option maxHeartbeats 4000000 in
theorem place_at {ao : Option Addr} {c i : Nat} {ring : List KeyD} {x : Int} {w : World} (hs : SlAt w ao (ringL ring)) (hlen : ring.length ≤ 1000) (hm : mayB ring = true) (hp : posD ring x = some i) :
    FnAt Try.prog 21 [.slice ao ring.length c, .int .i64 x] [] w (Ret fun v N => v = .tuple #[.int .i64 (i : Int), .int .i64 0] ∧ N = []) := by
  refine FnAt.intro Try.func21 rfl Try.ntmps21 rfl _ rfl ?_
  (repeat (with_reducible refine G_seq ?_))
  refine G_region ?_
  refine GL_y rfl rfl (Y_assign rfl) ?_
  refine GL_y rfl rfl (Y_assign rfl) ?_
  refine GL_nil ?_
  (repeat (first | (with_reducible refine R_seq ?_) | (with_reducible refine R_block_normal ?_)))
  (repeat (with_reducible refine G_seq ?_))
  refine G_region ?_
  refine GL_y rfl rfl (Y_move rfl) ?_
  refine GL_call rfl rfl rfl rfl Try.call19 .nil (fun w hw => may_is (hs.keep hw (by simp)) hlen hm) ?_
  rintro _ _ ⟨rfl, rfl⟩
  refine GL_y rfl rfl (Y_not rfl) ?_
  refine GL_nil ?_
  (repeat (first | (with_reducible refine R_seq ?_) | (with_reducible refine R_block_normal ?_)))
  (repeat (with_reducible refine G_seq ?_))
  refine G_cond_f rfl (by first | rfl | decide | (simp; done) | (simp; omega)) ?_
  (repeat (with_reducible refine G_seq ?_))
  refine G_skip ?_
  (repeat (first | (with_reducible refine R_seq ?_) | (with_reducible refine R_block_normal ?_)))
  (repeat (with_reducible refine G_seq ?_))
  refine G_region ?_
  refine GL_y rfl rfl (Y_move rfl) ?_
  refine GL_y rfl rfl (Y_move rfl) ?_
  refine GL_call rfl rfl rfl rfl Try.call26 .nil (fun w hw => search_is (hs.keep hw (by simp)) hlen (may_asc hm)) ?_
  rintro _ _ ⟨rfl, ⟨j, h, rfl⟩ | ⟨h, _⟩⟩
  rotate_left
  · rw [hp] at h; cases h
  rw [hp] at h; injection h with h; subst h
  refine GL_y rfl rfl (Y_move rfl) ?_
  refine GL_y rfl rfl (Y_extract rfl rfl) ?_
  refine GL_y rfl rfl (Y_extract rfl rfl) ?_
  refine GL_y rfl rfl (Y_assign rfl) ?_
  refine GL_y rfl rfl (Y_assign rfl) ?_
  refine GL_nil ?_
  (repeat (first | (with_reducible refine R_seq ?_) | (with_reducible refine R_block_normal ?_)))
  (repeat (with_reducible refine G_seq ?_))
  refine G_region ?_
  refine GL_y rfl rfl (Y_move rfl) ?_
  refine GL_y rfl rfl (Y_not rfl) ?_
  refine GL_nil ?_
  (repeat (first | (with_reducible refine R_seq ?_) | (with_reducible refine R_block_normal ?_)))
  (repeat (with_reducible refine G_seq ?_))
  refine G_cond_f rfl (by first | rfl | decide | (simp; done) | (simp; omega)) ?_
  (repeat (with_reducible refine G_seq ?_))
  refine G_skip ?_
  (repeat (first | (with_reducible refine R_seq ?_) | (with_reducible refine R_block_normal ?_)))
  (repeat (with_reducible refine G_seq ?_))
  refine G_region ?_
  refine GL_y rfl rfl (Y_move rfl) ?_
  refine GL_y rfl rfl (Y_assign rfl) ?_
  refine GL_y rfl rfl (Y_assign rfl) ?_
  refine GL_nil ?_
  (repeat (first | (with_reducible refine R_seq ?_) | (with_reducible refine R_block_normal ?_)))
  (repeat (with_reducible refine G_seq ?_))
  refine G_ret ?_
  (repeat (first | (with_reducible refine R_then_ret ?_) | (with_reducible refine R_block_ret ?_)))
  refine R_ret (.tmp rfl (.tmp rfl .nil)) [] .nil ⟨rfl, rfl⟩
end Go.Proofs.Ytkdodpcafamhaaa

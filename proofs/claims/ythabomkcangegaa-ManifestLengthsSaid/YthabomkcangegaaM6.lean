/-
  Same, Clone, Split, Number; the reader.
-/
import Derived.Test.YthabomkcangegaaM5
namespace Go.Proofs.Ythabomkcangegaa
open Go Go.Sl Go.RowKit

theorem sc25 : TScal Try.prog 25 := ⟨_, Try.underlying25, rfl, by kernel_rfl⟩
theorem segEq (a b : SegD) (w : World) : (Op.equalIn 10000 47 (.agg (segL a).toArray) (.agg (segL b).toArray)).run Try.prog w = .ok (decide (a = b)) w := by
  have hf : Try.prog.fieldsOf 47 = #[⟨"Load", 3, 0, false, "", "", 0⟩, ⟨"Bytes", 3, 1, false, "", "", 8⟩, ⟨"Digest", 45, 2, false, "", "", 16⟩] := by kernel_rfl
  rw [run_equalIn_struct w 9999 47 _ _ (by rw [hf]; exact Try.underlying47) (by kernel_rfl), hf]
  have hn : ∀ k : SegD, (part 3 (segL k).toArray 0).run Try.prog w = .ok (.int .i64 k.load) w := fun k => run_part_sc sc3 (by simp [segL]) w
  have hr : ∀ k : SegD, (part 3 (segL k).toArray 1).run Try.prog w = .ok (.int .i64 k.bytes) w := fun k => run_part_sc sc3 (by simp [segL]) w
  have hb : ∀ k : SegD, (part 45 (segL k).toArray 2).run Try.prog w = .ok (.agg (B k.dig).toArray) w := fun k => by
    rw [run_part_ag ag45 w]
    have := seg_dig k
    congr 2
    apply Array.toList_inj.1
    simpa using this
  have e1 := run_equalIn_int (P := Try.prog) w 9998 3 .i64 .i64 a.load b.load Try.underlying3
  have e3 := run_equalIn_int (P := Try.prog) w 9998 3 .i64 .i64 a.bytes b.bytes Try.underlying3
  have e2 : (Op.equalIn 9999 45 (.agg (B a.dig).toArray) (.agg (B b.dig).toArray)).run Try.prog w = .ok (decide (a.dig = b.dig)) w := by
    rw [B_ints, B_ints, run_equal_ints (d := 9997) ti45 _ _ (by simpa using a.len) (by simpa using b.len) w]
    simp only [ints_inj]
  refine (eqFields_cons (by decide) (hn a) (hn b) e1 (eqFields_cons (by decide) (hr a) (hr b) e3 (eqFields_cons (by decide) (hb a) (hb b) e2 eqFields_nil))).trans ?_
  congr 1
  rw [Bool.eq_iff_iff]
  cases a; cases b
  simp
theorem Y_neqSeg {n : Nat} {D : List Deferred} {X : List Nat} {w0 : World} {E : Env} {M : List Blk} {tt ty : TypeId} {x y : Operand} {a b : SegD} (hx : ev E x = some (.agg (segL a).toArray)) (hy : ev E y = some (.agg (segL b).toArray)) :
    Yl Try.prog n D X w0 E M (.binOp .neq 47 x y ty) tt (.bool (!decide (a = b))) := Y_eqAgg (op := .neq) eg47 hx hy (segEq a b) (.inr rfl)
theorem manEq {a b : ManD} (h : a = b) : a.ver = b.ver ∧ a.sec = b.sec ∧ a.key = b.key ∧ a.ent = b.ent ∧ a.segs = b.segs := by subst h; simp
set_option maxHeartbeats 4000000 in
theorem same_is {m1 m2 : ManD} {ao ao2 : Option Addr} {c c2 : Nat} {w : World} (hs : SlAt w ao (segsL m1.segs)) (hs2 : SlAt w ao2 (segsL m2.segs)) (hlen : m1.segs.length ≤ 1000) :
    FnAt Try.prog 14 [.agg (manL m1 ao c).toArray, .agg (manL m2 ao2 c2).toArray] [] w (Ret fun v N => v = .bool (decide (m1 = m2)) ∧ N = []) := by
  refine FnAt.intro Try.func14 rfl Try.ntmps14 rfl _ rfl ?_
  (repeat (with_reducible refine G_seq ?_))
  refine G_region ?_
  refine GL_w rfl rfl (W_boxA rfl fun b2 => ?_)
  refine GL_w rfl rfl (W_boxA rfl fun b3 => ?_)
  refine GL_y rfl rfl (Y_assign rfl) ?_
  refine GL_nil ?_
  (repeat (first | (with_reducible refine R_seq ?_) | (with_reducible refine R_block_normal ?_)))
  (repeat (with_reducible refine G_seq ?_))
  refine G_region ?_
  refine GL_y rfl rfl (Y_field fd24_0 rfl) ?_
  refine GL_y rfl rfl (Y_loadS (xs := manL m1 ao c) rfl sc3 (by first | exact .head _ | exact .tail _ (.head _) | exact .tail _ (.tail _ (.head _)) | exact .tail _ (.tail _ (.tail _ (.head _))) | exact .tail _ (.tail _ (.tail _ (.tail _ (.head _)))) | exact .tail _ (.tail _ (.tail _ (.tail _ (.tail _ (.head _))))) | exact .tail _ (.tail _ (.tail _ (.tail _ (.tail _ (.tail _ (.head _)))))) | exact .tail _ (.tail _ (.tail _ (.tail _ (.tail _ (.tail _ (.tail _ (.head _))))))) | exact .tail _ (.tail _ (.tail _ (.tail _ (.tail _ (.tail _ (.tail _ (.tail _ (.head _)))))))) | exact .tail _ (.tail _ (.tail _ (.tail _ (.tail _ (.tail _ (.tail _ (.tail _ (.tail _ (.head _))))))))) | exact .tail _ (.tail _ (.tail _ (.tail _ (.tail _ (.tail _ (.tail _ (.tail _ (.tail _ (.tail _ (.head _)))))))))) | exact .tail _ (.tail _ (.tail _ (.tail _ (.tail _ (.tail _ (.tail _ (.tail _ (.tail _ (.tail _ (.tail _ (.head _))))))))))) | exact .tail _ (.tail _ (.tail _ (.tail _ (.tail _ (.tail _ (.tail _ (.tail _ (.tail _ (.tail _ (.tail _ (.tail _ (.head _)))))))))))) | exact .tail _ (.tail _ (.tail _ (.tail _ (.tail _ (.tail _ (.tail _ (.tail _ (.tail _ (.tail _ (.tail _ (.tail _ (.tail _ (.head _)))))))))))))) rfl) ?_
  refine GL_y rfl rfl (Y_field fd24_0 rfl) ?_
  refine GL_y rfl rfl (Y_loadS (xs := manL m2 ao2 c2) rfl sc3 (by first | exact .head _ | exact .tail _ (.head _) | exact .tail _ (.tail _ (.head _)) | exact .tail _ (.tail _ (.tail _ (.head _))) | exact .tail _ (.tail _ (.tail _ (.tail _ (.head _)))) | exact .tail _ (.tail _ (.tail _ (.tail _ (.tail _ (.head _))))) | exact .tail _ (.tail _ (.tail _ (.tail _ (.tail _ (.tail _ (.head _)))))) | exact .tail _ (.tail _ (.tail _ (.tail _ (.tail _ (.tail _ (.tail _ (.head _))))))) | exact .tail _ (.tail _ (.tail _ (.tail _ (.tail _ (.tail _ (.tail _ (.tail _ (.head _)))))))) | exact .tail _ (.tail _ (.tail _ (.tail _ (.tail _ (.tail _ (.tail _ (.tail _ (.tail _ (.head _))))))))) | exact .tail _ (.tail _ (.tail _ (.tail _ (.tail _ (.tail _ (.tail _ (.tail _ (.tail _ (.tail _ (.head _)))))))))) | exact .tail _ (.tail _ (.tail _ (.tail _ (.tail _ (.tail _ (.tail _ (.tail _ (.tail _ (.tail _ (.tail _ (.head _))))))))))) | exact .tail _ (.tail _ (.tail _ (.tail _ (.tail _ (.tail _ (.tail _ (.tail _ (.tail _ (.tail _ (.tail _ (.tail _ (.head _)))))))))))) | exact .tail _ (.tail _ (.tail _ (.tail _ (.tail _ (.tail _ (.tail _ (.tail _ (.tail _ (.tail _ (.tail _ (.tail _ (.tail _ (.head _)))))))))))))) rfl) ?_
  refine GL_y rfl rfl (Y_iop rfl rfl rfl) ?_
  refine GL_y rfl rfl (Y_move rfl) ?_
  refine GL_bool 11 rfl (fun g11 => ?_) (fun g11 => ?_)
  · -- g11 True
    refine GL_skip rfl rfl ?_
    refine GL_skip rfl rfl ?_
    refine GL_skip rfl rfl ?_
    refine GL_skip rfl rfl ?_
    refine GL_skip rfl rfl ?_
    refine GL_y rfl rfl (Y_pick rfl rfl rfl rfl) ?_
    refine GL_y rfl rfl (Y_move rfl) ?_
    refine GL_skip rfl rfl ?_
    refine GL_skip rfl rfl ?_
    refine GL_skip rfl rfl ?_
    refine GL_skip rfl rfl ?_
    refine GL_skip rfl rfl ?_
    refine GL_y rfl rfl (Y_pick rfl rfl rfl rfl) ?_
    refine GL_y rfl rfl (Y_move rfl) ?_
    refine GL_skip rfl rfl ?_
    refine GL_skip rfl rfl ?_
    refine GL_skip rfl rfl ?_
    refine GL_skip rfl rfl ?_
    refine GL_skip rfl rfl ?_
    refine GL_y rfl rfl (Y_pick rfl rfl rfl rfl) ?_
    refine GL_y rfl rfl (Y_move rfl) ?_
    refine GL_skip rfl rfl ?_
    refine GL_skip rfl rfl ?_
    refine GL_skip rfl rfl ?_
    refine GL_skip rfl rfl ?_
    refine GL_skip rfl rfl ?_
    refine GL_skip rfl rfl ?_
    refine GL_skip rfl rfl ?_
    refine GL_y rfl rfl (Y_pick rfl rfl rfl rfl) ?_
    refine GL_nil ?_
    (repeat (first | (with_reducible refine R_seq ?_) | (with_reducible refine R_block_normal ?_)))
    (repeat (with_reducible refine G_seq ?_))
    refine G_cond_t rfl (by first | rfl | decide | (simp; done) | (simp; omega)) ?_
    (repeat (with_reducible refine G_seq ?_))
    refine G_region ?_
    refine GL_y rfl rfl (Y_assign rfl) ?_
    refine GL_nil ?_
    (repeat (first | (with_reducible refine R_seq ?_) | (with_reducible refine R_block_normal ?_)))
    (repeat (with_reducible refine G_seq ?_))
    refine G_ret ?_
    (repeat (first | (with_reducible refine R_then_ret ?_) | (with_reducible refine R_block_ret ?_)))
    refine R_ret (.tmp rfl .nil) [] .nil ⟨congrArg Value.bool ?_, rfl⟩
    exact (decide_eq_false fun e => by have h := (manEq e).1; simp [h] at g11).symm
  · -- g11 False
    refine GL_y rfl rfl (Y_field fd24_1 rfl) ?_
    refine GL_y rfl rfl (Y_loadS (xs := manL m1 ao c) rfl sc3 (by first | exact .head _ | exact .tail _ (.head _) | exact .tail _ (.tail _ (.head _)) | exact .tail _ (.tail _ (.tail _ (.head _))) | exact .tail _ (.tail _ (.tail _ (.tail _ (.head _)))) | exact .tail _ (.tail _ (.tail _ (.tail _ (.tail _ (.head _))))) | exact .tail _ (.tail _ (.tail _ (.tail _ (.tail _ (.tail _ (.head _)))))) | exact .tail _ (.tail _ (.tail _ (.tail _ (.tail _ (.tail _ (.tail _ (.head _))))))) | exact .tail _ (.tail _ (.tail _ (.tail _ (.tail _ (.tail _ (.tail _ (.tail _ (.head _)))))))) | exact .tail _ (.tail _ (.tail _ (.tail _ (.tail _ (.tail _ (.tail _ (.tail _ (.tail _ (.head _))))))))) | exact .tail _ (.tail _ (.tail _ (.tail _ (.tail _ (.tail _ (.tail _ (.tail _ (.tail _ (.tail _ (.head _)))))))))) | exact .tail _ (.tail _ (.tail _ (.tail _ (.tail _ (.tail _ (.tail _ (.tail _ (.tail _ (.tail _ (.tail _ (.head _))))))))))) | exact .tail _ (.tail _ (.tail _ (.tail _ (.tail _ (.tail _ (.tail _ (.tail _ (.tail _ (.tail _ (.tail _ (.tail _ (.head _)))))))))))) | exact .tail _ (.tail _ (.tail _ (.tail _ (.tail _ (.tail _ (.tail _ (.tail _ (.tail _ (.tail _ (.tail _ (.tail _ (.tail _ (.head _)))))))))))))) rfl) ?_
    refine GL_y rfl rfl (Y_field fd24_1 rfl) ?_
    refine GL_y rfl rfl (Y_loadS (xs := manL m2 ao2 c2) rfl sc3 (by first | exact .head _ | exact .tail _ (.head _) | exact .tail _ (.tail _ (.head _)) | exact .tail _ (.tail _ (.tail _ (.head _))) | exact .tail _ (.tail _ (.tail _ (.tail _ (.head _)))) | exact .tail _ (.tail _ (.tail _ (.tail _ (.tail _ (.head _))))) | exact .tail _ (.tail _ (.tail _ (.tail _ (.tail _ (.tail _ (.head _)))))) | exact .tail _ (.tail _ (.tail _ (.tail _ (.tail _ (.tail _ (.tail _ (.head _))))))) | exact .tail _ (.tail _ (.tail _ (.tail _ (.tail _ (.tail _ (.tail _ (.tail _ (.head _)))))))) | exact .tail _ (.tail _ (.tail _ (.tail _ (.tail _ (.tail _ (.tail _ (.tail _ (.tail _ (.head _))))))))) | exact .tail _ (.tail _ (.tail _ (.tail _ (.tail _ (.tail _ (.tail _ (.tail _ (.tail _ (.tail _ (.head _)))))))))) | exact .tail _ (.tail _ (.tail _ (.tail _ (.tail _ (.tail _ (.tail _ (.tail _ (.tail _ (.tail _ (.tail _ (.head _))))))))))) | exact .tail _ (.tail _ (.tail _ (.tail _ (.tail _ (.tail _ (.tail _ (.tail _ (.tail _ (.tail _ (.tail _ (.tail _ (.head _)))))))))))) | exact .tail _ (.tail _ (.tail _ (.tail _ (.tail _ (.tail _ (.tail _ (.tail _ (.tail _ (.tail _ (.tail _ (.tail _ (.tail _ (.head _)))))))))))))) rfl) ?_
    refine GL_y rfl rfl (Y_iop rfl rfl rfl) ?_
    refine GL_y rfl rfl (Y_pick rfl rfl rfl rfl) ?_
    refine GL_y rfl rfl (Y_move rfl) ?_
    refine GL_bool 18 rfl (fun g18 => ?_) (fun g18 => ?_)
    · -- g18 True
      refine GL_skip rfl rfl ?_
      refine GL_skip rfl rfl ?_
      refine GL_skip rfl rfl ?_
      refine GL_skip rfl rfl ?_
      refine GL_skip rfl rfl ?_
      refine GL_y rfl rfl (Y_pick rfl rfl rfl rfl) ?_
      refine GL_y rfl rfl (Y_move rfl) ?_
      refine GL_skip rfl rfl ?_
      refine GL_skip rfl rfl ?_
      refine GL_skip rfl rfl ?_
      refine GL_skip rfl rfl ?_
      refine GL_skip rfl rfl ?_
      refine GL_y rfl rfl (Y_pick rfl rfl rfl rfl) ?_
      refine GL_y rfl rfl (Y_move rfl) ?_
      refine GL_skip rfl rfl ?_
      refine GL_skip rfl rfl ?_
      refine GL_skip rfl rfl ?_
      refine GL_skip rfl rfl ?_
      refine GL_skip rfl rfl ?_
      refine GL_skip rfl rfl ?_
      refine GL_skip rfl rfl ?_
      refine GL_y rfl rfl (Y_pick rfl rfl rfl rfl) ?_
      refine GL_nil ?_
      (repeat (first | (with_reducible refine R_seq ?_) | (with_reducible refine R_block_normal ?_)))
      (repeat (with_reducible refine G_seq ?_))
      refine G_cond_t rfl (by first | rfl | decide | (simp; done) | (simp; omega)) ?_
      (repeat (with_reducible refine G_seq ?_))
      refine G_region ?_
      refine GL_y rfl rfl (Y_assign rfl) ?_
      refine GL_nil ?_
      (repeat (first | (with_reducible refine R_seq ?_) | (with_reducible refine R_block_normal ?_)))
      (repeat (with_reducible refine G_seq ?_))
      refine G_ret ?_
      (repeat (first | (with_reducible refine R_then_ret ?_) | (with_reducible refine R_block_ret ?_)))
      refine R_ret (.tmp rfl .nil) [] .nil ⟨congrArg Value.bool ?_, rfl⟩
      exact (decide_eq_false fun e => by have h := (manEq e).2.1; simp [h] at g18).symm
    · -- g18 False
      refine GL_y rfl rfl (Y_field fd24_2 rfl) ?_
      refine GL_y rfl rfl (Y_loadS (xs := manL m1 ao c) rfl sc3 (by first | exact .head _ | exact .tail _ (.head _) | exact .tail _ (.tail _ (.head _)) | exact .tail _ (.tail _ (.tail _ (.head _))) | exact .tail _ (.tail _ (.tail _ (.tail _ (.head _)))) | exact .tail _ (.tail _ (.tail _ (.tail _ (.tail _ (.head _))))) | exact .tail _ (.tail _ (.tail _ (.tail _ (.tail _ (.tail _ (.head _)))))) | exact .tail _ (.tail _ (.tail _ (.tail _ (.tail _ (.tail _ (.tail _ (.head _))))))) | exact .tail _ (.tail _ (.tail _ (.tail _ (.tail _ (.tail _ (.tail _ (.tail _ (.head _)))))))) | exact .tail _ (.tail _ (.tail _ (.tail _ (.tail _ (.tail _ (.tail _ (.tail _ (.tail _ (.head _))))))))) | exact .tail _ (.tail _ (.tail _ (.tail _ (.tail _ (.tail _ (.tail _ (.tail _ (.tail _ (.tail _ (.head _)))))))))) | exact .tail _ (.tail _ (.tail _ (.tail _ (.tail _ (.tail _ (.tail _ (.tail _ (.tail _ (.tail _ (.tail _ (.head _))))))))))) | exact .tail _ (.tail _ (.tail _ (.tail _ (.tail _ (.tail _ (.tail _ (.tail _ (.tail _ (.tail _ (.tail _ (.tail _ (.head _)))))))))))) | exact .tail _ (.tail _ (.tail _ (.tail _ (.tail _ (.tail _ (.tail _ (.tail _ (.tail _ (.tail _ (.tail _ (.tail _ (.tail _ (.head _)))))))))))))) rfl) ?_
      refine GL_y rfl rfl (Y_field fd24_2 rfl) ?_
      refine GL_y rfl rfl (Y_loadS (xs := manL m2 ao2 c2) rfl sc3 (by first | exact .head _ | exact .tail _ (.head _) | exact .tail _ (.tail _ (.head _)) | exact .tail _ (.tail _ (.tail _ (.head _))) | exact .tail _ (.tail _ (.tail _ (.tail _ (.head _)))) | exact .tail _ (.tail _ (.tail _ (.tail _ (.tail _ (.head _))))) | exact .tail _ (.tail _ (.tail _ (.tail _ (.tail _ (.tail _ (.head _)))))) | exact .tail _ (.tail _ (.tail _ (.tail _ (.tail _ (.tail _ (.tail _ (.head _))))))) | exact .tail _ (.tail _ (.tail _ (.tail _ (.tail _ (.tail _ (.tail _ (.tail _ (.head _)))))))) | exact .tail _ (.tail _ (.tail _ (.tail _ (.tail _ (.tail _ (.tail _ (.tail _ (.tail _ (.head _))))))))) | exact .tail _ (.tail _ (.tail _ (.tail _ (.tail _ (.tail _ (.tail _ (.tail _ (.tail _ (.tail _ (.head _)))))))))) | exact .tail _ (.tail _ (.tail _ (.tail _ (.tail _ (.tail _ (.tail _ (.tail _ (.tail _ (.tail _ (.tail _ (.head _))))))))))) | exact .tail _ (.tail _ (.tail _ (.tail _ (.tail _ (.tail _ (.tail _ (.tail _ (.tail _ (.tail _ (.tail _ (.tail _ (.head _)))))))))))) | exact .tail _ (.tail _ (.tail _ (.tail _ (.tail _ (.tail _ (.tail _ (.tail _ (.tail _ (.tail _ (.tail _ (.tail _ (.tail _ (.head _)))))))))))))) rfl) ?_
      refine GL_y rfl rfl (Y_iop rfl rfl rfl) ?_
      refine GL_y rfl rfl (Y_pick rfl rfl rfl rfl) ?_
      refine GL_y rfl rfl (Y_move rfl) ?_
      refine GL_bool 25 rfl (fun g25 => ?_) (fun g25 => ?_)
      · -- g25 True
        refine GL_skip rfl rfl ?_
        refine GL_skip rfl rfl ?_
        refine GL_skip rfl rfl ?_
        refine GL_skip rfl rfl ?_
        refine GL_skip rfl rfl ?_
        refine GL_y rfl rfl (Y_pick rfl rfl rfl rfl) ?_
        refine GL_y rfl rfl (Y_move rfl) ?_
        refine GL_skip rfl rfl ?_
        refine GL_skip rfl rfl ?_
        refine GL_skip rfl rfl ?_
        refine GL_skip rfl rfl ?_
        refine GL_skip rfl rfl ?_
        refine GL_skip rfl rfl ?_
        refine GL_skip rfl rfl ?_
        refine GL_y rfl rfl (Y_pick rfl rfl rfl rfl) ?_
        refine GL_nil ?_
        (repeat (first | (with_reducible refine R_seq ?_) | (with_reducible refine R_block_normal ?_)))
        (repeat (with_reducible refine G_seq ?_))
        refine G_cond_t rfl (by first | rfl | decide | (simp; done) | (simp; omega)) ?_
        (repeat (with_reducible refine G_seq ?_))
        refine G_region ?_
        refine GL_y rfl rfl (Y_assign rfl) ?_
        refine GL_nil ?_
        (repeat (first | (with_reducible refine R_seq ?_) | (with_reducible refine R_block_normal ?_)))
        (repeat (with_reducible refine G_seq ?_))
        refine G_ret ?_
        (repeat (first | (with_reducible refine R_then_ret ?_) | (with_reducible refine R_block_ret ?_)))
        refine R_ret (.tmp rfl .nil) [] .nil ⟨congrArg Value.bool ?_, rfl⟩
        exact (decide_eq_false fun e => by have h := (manEq e).2.2.1; simp [h] at g25).symm
      · -- g25 False
        refine GL_y rfl rfl (Y_field fd24_3 rfl) ?_
        refine GL_y rfl rfl (Y_loadS (xs := manL m1 ao c) rfl sc3 (by first | exact .head _ | exact .tail _ (.head _) | exact .tail _ (.tail _ (.head _)) | exact .tail _ (.tail _ (.tail _ (.head _))) | exact .tail _ (.tail _ (.tail _ (.tail _ (.head _)))) | exact .tail _ (.tail _ (.tail _ (.tail _ (.tail _ (.head _))))) | exact .tail _ (.tail _ (.tail _ (.tail _ (.tail _ (.tail _ (.head _)))))) | exact .tail _ (.tail _ (.tail _ (.tail _ (.tail _ (.tail _ (.tail _ (.head _))))))) | exact .tail _ (.tail _ (.tail _ (.tail _ (.tail _ (.tail _ (.tail _ (.tail _ (.head _)))))))) | exact .tail _ (.tail _ (.tail _ (.tail _ (.tail _ (.tail _ (.tail _ (.tail _ (.tail _ (.head _))))))))) | exact .tail _ (.tail _ (.tail _ (.tail _ (.tail _ (.tail _ (.tail _ (.tail _ (.tail _ (.tail _ (.head _)))))))))) | exact .tail _ (.tail _ (.tail _ (.tail _ (.tail _ (.tail _ (.tail _ (.tail _ (.tail _ (.tail _ (.tail _ (.head _))))))))))) | exact .tail _ (.tail _ (.tail _ (.tail _ (.tail _ (.tail _ (.tail _ (.tail _ (.tail _ (.tail _ (.tail _ (.tail _ (.head _)))))))))))) | exact .tail _ (.tail _ (.tail _ (.tail _ (.tail _ (.tail _ (.tail _ (.tail _ (.tail _ (.tail _ (.tail _ (.tail _ (.tail _ (.head _)))))))))))))) rfl) ?_
        refine GL_y rfl rfl (Y_field fd24_3 rfl) ?_
        refine GL_y rfl rfl (Y_loadS (xs := manL m2 ao2 c2) rfl sc3 (by first | exact .head _ | exact .tail _ (.head _) | exact .tail _ (.tail _ (.head _)) | exact .tail _ (.tail _ (.tail _ (.head _))) | exact .tail _ (.tail _ (.tail _ (.tail _ (.head _)))) | exact .tail _ (.tail _ (.tail _ (.tail _ (.tail _ (.head _))))) | exact .tail _ (.tail _ (.tail _ (.tail _ (.tail _ (.tail _ (.head _)))))) | exact .tail _ (.tail _ (.tail _ (.tail _ (.tail _ (.tail _ (.tail _ (.head _))))))) | exact .tail _ (.tail _ (.tail _ (.tail _ (.tail _ (.tail _ (.tail _ (.tail _ (.head _)))))))) | exact .tail _ (.tail _ (.tail _ (.tail _ (.tail _ (.tail _ (.tail _ (.tail _ (.tail _ (.head _))))))))) | exact .tail _ (.tail _ (.tail _ (.tail _ (.tail _ (.tail _ (.tail _ (.tail _ (.tail _ (.tail _ (.head _)))))))))) | exact .tail _ (.tail _ (.tail _ (.tail _ (.tail _ (.tail _ (.tail _ (.tail _ (.tail _ (.tail _ (.tail _ (.head _))))))))))) | exact .tail _ (.tail _ (.tail _ (.tail _ (.tail _ (.tail _ (.tail _ (.tail _ (.tail _ (.tail _ (.tail _ (.tail _ (.head _)))))))))))) | exact .tail _ (.tail _ (.tail _ (.tail _ (.tail _ (.tail _ (.tail _ (.tail _ (.tail _ (.tail _ (.tail _ (.tail _ (.tail _ (.head _)))))))))))))) rfl) ?_
        refine GL_y rfl rfl (Y_iop rfl rfl rfl) ?_
        refine GL_y rfl rfl (Y_pick rfl rfl rfl rfl) ?_
        refine GL_y rfl rfl (Y_move rfl) ?_
        refine GL_bool 32 rfl (fun g32 => ?_) (fun g32 => ?_)
        · -- g32 True
          refine GL_skip rfl rfl ?_
          refine GL_skip rfl rfl ?_
          refine GL_skip rfl rfl ?_
          refine GL_skip rfl rfl ?_
          refine GL_skip rfl rfl ?_
          refine GL_skip rfl rfl ?_
          refine GL_skip rfl rfl ?_
          refine GL_y rfl rfl (Y_pick rfl rfl rfl rfl) ?_
          refine GL_nil ?_
          (repeat (first | (with_reducible refine R_seq ?_) | (with_reducible refine R_block_normal ?_)))
          (repeat (with_reducible refine G_seq ?_))
          refine G_cond_t rfl (by first | rfl | decide | (simp; done) | (simp; omega)) ?_
          (repeat (with_reducible refine G_seq ?_))
          refine G_region ?_
          refine GL_y rfl rfl (Y_assign rfl) ?_
          refine GL_nil ?_
          (repeat (first | (with_reducible refine R_seq ?_) | (with_reducible refine R_block_normal ?_)))
          (repeat (with_reducible refine G_seq ?_))
          refine G_ret ?_
          (repeat (first | (with_reducible refine R_then_ret ?_) | (with_reducible refine R_block_ret ?_)))
          refine R_ret (.tmp rfl .nil) [] .nil ⟨congrArg Value.bool ?_, rfl⟩
          exact (decide_eq_false fun e => by have h := (manEq e).2.2.2.1; simp [h] at g32).symm
        · -- g32 False
          refine GL_y rfl rfl (Y_field fd24_4 rfl) ?_
          refine GL_y rfl rfl (Y_loadS (xs := manL m1 ao c) rfl sc22 (by first | exact .head _ | exact .tail _ (.head _) | exact .tail _ (.tail _ (.head _)) | exact .tail _ (.tail _ (.tail _ (.head _))) | exact .tail _ (.tail _ (.tail _ (.tail _ (.head _)))) | exact .tail _ (.tail _ (.tail _ (.tail _ (.tail _ (.head _))))) | exact .tail _ (.tail _ (.tail _ (.tail _ (.tail _ (.tail _ (.head _)))))) | exact .tail _ (.tail _ (.tail _ (.tail _ (.tail _ (.tail _ (.tail _ (.head _))))))) | exact .tail _ (.tail _ (.tail _ (.tail _ (.tail _ (.tail _ (.tail _ (.tail _ (.head _)))))))) | exact .tail _ (.tail _ (.tail _ (.tail _ (.tail _ (.tail _ (.tail _ (.tail _ (.tail _ (.head _))))))))) | exact .tail _ (.tail _ (.tail _ (.tail _ (.tail _ (.tail _ (.tail _ (.tail _ (.tail _ (.tail _ (.head _)))))))))) | exact .tail _ (.tail _ (.tail _ (.tail _ (.tail _ (.tail _ (.tail _ (.tail _ (.tail _ (.tail _ (.tail _ (.head _))))))))))) | exact .tail _ (.tail _ (.tail _ (.tail _ (.tail _ (.tail _ (.tail _ (.tail _ (.tail _ (.tail _ (.tail _ (.tail _ (.head _)))))))))))) | exact .tail _ (.tail _ (.tail _ (.tail _ (.tail _ (.tail _ (.tail _ (.tail _ (.tail _ (.tail _ (.tail _ (.tail _ (.tail _ (.head _)))))))))))))) rfl) ?_
          refine GL_y rfl rfl (Y_len sl22 rfl) ?_
          refine GL_y rfl rfl (Y_field fd24_4 rfl) ?_
          refine GL_y rfl rfl (Y_loadS (xs := manL m2 ao2 c2) rfl sc22 (by first | exact .head _ | exact .tail _ (.head _) | exact .tail _ (.tail _ (.head _)) | exact .tail _ (.tail _ (.tail _ (.head _))) | exact .tail _ (.tail _ (.tail _ (.tail _ (.head _)))) | exact .tail _ (.tail _ (.tail _ (.tail _ (.tail _ (.head _))))) | exact .tail _ (.tail _ (.tail _ (.tail _ (.tail _ (.tail _ (.head _)))))) | exact .tail _ (.tail _ (.tail _ (.tail _ (.tail _ (.tail _ (.tail _ (.head _))))))) | exact .tail _ (.tail _ (.tail _ (.tail _ (.tail _ (.tail _ (.tail _ (.tail _ (.head _)))))))) | exact .tail _ (.tail _ (.tail _ (.tail _ (.tail _ (.tail _ (.tail _ (.tail _ (.tail _ (.head _))))))))) | exact .tail _ (.tail _ (.tail _ (.tail _ (.tail _ (.tail _ (.tail _ (.tail _ (.tail _ (.tail _ (.head _)))))))))) | exact .tail _ (.tail _ (.tail _ (.tail _ (.tail _ (.tail _ (.tail _ (.tail _ (.tail _ (.tail _ (.tail _ (.head _))))))))))) | exact .tail _ (.tail _ (.tail _ (.tail _ (.tail _ (.tail _ (.tail _ (.tail _ (.tail _ (.tail _ (.tail _ (.tail _ (.head _)))))))))))) | exact .tail _ (.tail _ (.tail _ (.tail _ (.tail _ (.tail _ (.tail _ (.tail _ (.tail _ (.tail _ (.tail _ (.tail _ (.tail _ (.head _)))))))))))))) rfl) ?_
          refine GL_y rfl rfl (Y_len sl22 rfl) ?_
          refine GL_y rfl rfl (Y_neqN rfl rfl) ?_
          refine GL_y rfl rfl (Y_pick rfl rfl rfl rfl) ?_
          refine GL_nil ?_
          (repeat (first | (with_reducible refine R_seq ?_) | (with_reducible refine R_block_normal ?_)))
          (repeat (with_reducible refine G_seq ?_))
          refine G_cond rfl (fun h40 => ?_) (fun h40 => ?_)
          · -- yes
            (repeat (with_reducible refine G_seq ?_))
            refine G_region ?_
            refine GL_y rfl rfl (Y_assign rfl) ?_
            refine GL_nil ?_
            (repeat (first | (with_reducible refine R_seq ?_) | (with_reducible refine R_block_normal ?_)))
            (repeat (with_reducible refine G_seq ?_))
            refine G_ret ?_
            (repeat (first | (with_reducible refine R_then_ret ?_) | (with_reducible refine R_block_ret ?_)))
            refine R_ret (.tmp rfl .nil) [] .nil ⟨congrArg Value.bool ?_, rfl⟩
            exact (decide_eq_false fun e => by have h := (manEq e).2.2.2.2; simp [h] at h40).symm
          · -- no
            have hle : m1.segs.length = m2.segs.length := by simpa using h40
            (repeat (with_reducible refine G_seq ?_))
            refine G_skip ?_
            (repeat (first | (with_reducible refine R_seq ?_) | (with_reducible refine R_block_normal ?_)))
            (repeat (with_reducible refine G_seq ?_))
            refine G_region ?_
            refine GL_y rfl rfl (Y_assign rfl) ?_
            refine GL_nil ?_
            (repeat (first | (with_reducible refine R_seq ?_) | (with_reducible refine R_block_normal ?_)))
            (repeat (with_reducible refine G_seq ?_))
            refine G_block ?_
            (repeat (with_reducible refine G_seq ?_))
            refine G_loop (ι := Nat) (fun i => m1.segs.length - i) (fun i => i ≤ m1.segs.length ∧ (∀ q, q < i → m1.segs[q]? = m2.segs[q]?)) (fun i => [(2, .pointer (some ⟨b2, 0, none⟩)), (3, .pointer (some ⟨b3, 0, none⟩)), (4, .bool false), (5, .int .i64 (i : Int))]) (fun i => [⟨b2, 24, 5, manL m1 ao c, (0, 0)⟩, ⟨b3, 24, 5, manL m2 ao2 c2, (0, 0)⟩]) 0 ?_ (⟨by first | rfl | decide, by first | rfl | decide, by first | rfl | decide, by first | rfl | decide, trivial⟩) (by repeat (first | exact .nil | exact Pick.rfl' _ | exact Pick.skip (Pick.rfl' _) | exact Pick.skip (Pick.skip (Pick.rfl' _)) | (apply Pick.cons; focus (first | exact .head | exact (.tail .head) | exact (.tail (.tail .head)) | exact (.tail (.tail (.tail .head))) | exact (.tail (.tail (.tail (.tail .head)))) | exact (.tail (.tail (.tail (.tail (.tail .head))))) | exact (.tail (.tail (.tail (.tail (.tail (.tail .head)))))) | exact (.tail (.tail (.tail (.tail (.tail (.tail (.tail .head))))))) | exact (.tail (.tail (.tail (.tail (.tail (.tail (.tail (.tail .head)))))))) | exact (.tail (.tail (.tail (.tail (.tail (.tail (.tail (.tail (.tail .head))))))))) | exact (.tail (.tail (.tail (.tail (.tail (.tail (.tail (.tail (.tail (.tail .head)))))))))) | exact (.tail (.tail (.tail (.tail (.tail (.tail (.tail (.tail (.tail (.tail (.tail .head))))))))))) | exact (.tail (.tail (.tail (.tail (.tail (.tail (.tail (.tail (.tail (.tail (.tail (.tail .head)))))))))))) | exact (.tail (.tail (.tail (.tail (.tail (.tail (.tail (.tail (.tail (.tail (.tail (.tail (.tail .head))))))))))))))))) ?_
            · exact ⟨by omega, fun q h => by omega⟩
            intro i ⟨hi, hinv⟩
            (repeat (with_reducible refine G_seq ?_))
            refine G_region ?_
            refine GL_y rfl rfl (Y_move rfl) ?_
            refine GL_y rfl rfl (Y_field fd24_4 rfl) ?_
            refine GL_y rfl rfl (Y_loadS (xs := manL m1 ao c) rfl sc22 (by first | exact .head _ | exact .tail _ (.head _) | exact .tail _ (.tail _ (.head _)) | exact .tail _ (.tail _ (.tail _ (.head _))) | exact .tail _ (.tail _ (.tail _ (.tail _ (.head _)))) | exact .tail _ (.tail _ (.tail _ (.tail _ (.tail _ (.head _))))) | exact .tail _ (.tail _ (.tail _ (.tail _ (.tail _ (.tail _ (.head _)))))) | exact .tail _ (.tail _ (.tail _ (.tail _ (.tail _ (.tail _ (.tail _ (.head _))))))) | exact .tail _ (.tail _ (.tail _ (.tail _ (.tail _ (.tail _ (.tail _ (.tail _ (.head _)))))))) | exact .tail _ (.tail _ (.tail _ (.tail _ (.tail _ (.tail _ (.tail _ (.tail _ (.tail _ (.head _))))))))) | exact .tail _ (.tail _ (.tail _ (.tail _ (.tail _ (.tail _ (.tail _ (.tail _ (.tail _ (.tail _ (.head _)))))))))) | exact .tail _ (.tail _ (.tail _ (.tail _ (.tail _ (.tail _ (.tail _ (.tail _ (.tail _ (.tail _ (.tail _ (.head _))))))))))) | exact .tail _ (.tail _ (.tail _ (.tail _ (.tail _ (.tail _ (.tail _ (.tail _ (.tail _ (.tail _ (.tail _ (.tail _ (.head _)))))))))))) | exact .tail _ (.tail _ (.tail _ (.tail _ (.tail _ (.tail _ (.tail _ (.tail _ (.tail _ (.tail _ (.tail _ (.tail _ (.tail _ (.head _)))))))))))))) rfl) ?_
            refine GL_y rfl rfl (Y_len sl22 rfl) ?_
            refine GL_y rfl rfl (Y_lssN rfl rfl) ?_
            refine GL_nil ?_
            (repeat (first | (with_reducible refine R_seq ?_) | (with_reducible refine R_block_normal ?_)))
            (repeat (with_reducible refine G_seq ?_))
            refine G_cond_dec rfl (fun ht45 => ?_) (fun ht45 => ?_)
            · -- yes
              (repeat (with_reducible refine G_seq ?_))
              refine G_skip ?_
              (repeat (first | (with_reducible refine R_seq ?_) | (with_reducible refine R_block_normal ?_)))
              (repeat (with_reducible refine G_seq ?_))
              refine G_block ?_
              obtain ⟨k, hk⟩ : ∃ k, m1.segs[i]? = some k := ⟨m1.segs[i], List.getElem?_eq_getElem ht45⟩
              obtain ⟨k2, hk2⟩ : ∃ k, m2.segs[i]? = some k := ⟨m2.segs[i], List.getElem?_eq_getElem (by have h : i < m1.segs.length := ht45; omega)⟩
              (repeat (with_reducible refine G_seq ?_))
              refine G_draw [] 11 rfl (by kernel_rfl) ?_
              refine GA_y 0 rfl (by kernel_rfl) (by kernel_rfl) (by kernel_rfl) (fun _ _ _ h => h) rfl rfl rfl (Y_field fd24_4 rfl) ?_
              refine GA_l 1 rfl (by kernel_rfl) (by kernel_rfl) (by kernel_rfl) (fun _ _ _ h => h) rfl rfl rfl rfl (Y_loadS (xs := manL m1 ao c) rfl sc22 (by first | exact .head _ | exact .tail _ (.head _) | exact .tail _ (.tail _ (.head _)) | exact .tail _ (.tail _ (.tail _ (.head _))) | exact .tail _ (.tail _ (.tail _ (.tail _ (.head _)))) | exact .tail _ (.tail _ (.tail _ (.tail _ (.tail _ (.head _))))) | exact .tail _ (.tail _ (.tail _ (.tail _ (.tail _ (.tail _ (.head _)))))) | exact .tail _ (.tail _ (.tail _ (.tail _ (.tail _ (.tail _ (.tail _ (.head _))))))) | exact .tail _ (.tail _ (.tail _ (.tail _ (.tail _ (.tail _ (.tail _ (.tail _ (.head _)))))))) | exact .tail _ (.tail _ (.tail _ (.tail _ (.tail _ (.tail _ (.tail _ (.tail _ (.tail _ (.head _))))))))) | exact .tail _ (.tail _ (.tail _ (.tail _ (.tail _ (.tail _ (.tail _ (.tail _ (.tail _ (.tail _ (.head _)))))))))) | exact .tail _ (.tail _ (.tail _ (.tail _ (.tail _ (.tail _ (.tail _ (.tail _ (.tail _ (.tail _ (.tail _ (.head _))))))))))) | exact .tail _ (.tail _ (.tail _ (.tail _ (.tail _ (.tail _ (.tail _ (.tail _ (.tail _ (.tail _ (.tail _ (.tail _ (.head _)))))))))))) | exact .tail _ (.tail _ (.tail _ (.tail _ (.tail _ (.tail _ (.tail _ (.tail _ (.tail _ (.tail _ (.tail _ (.tail _ (.tail _ (.head _)))))))))))))) rfl) ?_
              refine GA_y 2 rfl (by kernel_rfl) (by kernel_rfl) (by kernel_rfl) (fun _ _ _ h => h) rfl rfl rfl (Y_move rfl) ?_
              refine GA_y 3 rfl (by kernel_rfl) (by kernel_rfl) (by kernel_rfl) (fun _ _ _ h => h) rfl rfl rfl (Y_recAt segL_len (by decide) sl22 hs rfl rfl hk rfl) ?_
              refine GA_y 4 rfl (by kernel_rfl) (by kernel_rfl) (by kernel_rfl) (fun _ _ _ h => h) rfl rfl rfl (Y_recAll segL_len ag47 hs (by simp) rfl hk) ?_
              refine GA_y 5 rfl (by kernel_rfl) (by kernel_rfl) (by kernel_rfl) (fun _ _ _ h => h) rfl rfl rfl (Y_field fd24_4 rfl) ?_
              refine GA_l 6 rfl (by kernel_rfl) (by kernel_rfl) (by kernel_rfl) (fun _ _ _ h => h) rfl rfl rfl rfl (Y_loadS (xs := manL m2 ao2 c2) rfl sc22 (by first | exact .head _ | exact .tail _ (.head _) | exact .tail _ (.tail _ (.head _)) | exact .tail _ (.tail _ (.tail _ (.head _))) | exact .tail _ (.tail _ (.tail _ (.tail _ (.head _)))) | exact .tail _ (.tail _ (.tail _ (.tail _ (.tail _ (.head _))))) | exact .tail _ (.tail _ (.tail _ (.tail _ (.tail _ (.tail _ (.head _)))))) | exact .tail _ (.tail _ (.tail _ (.tail _ (.tail _ (.tail _ (.tail _ (.head _))))))) | exact .tail _ (.tail _ (.tail _ (.tail _ (.tail _ (.tail _ (.tail _ (.tail _ (.head _)))))))) | exact .tail _ (.tail _ (.tail _ (.tail _ (.tail _ (.tail _ (.tail _ (.tail _ (.tail _ (.head _))))))))) | exact .tail _ (.tail _ (.tail _ (.tail _ (.tail _ (.tail _ (.tail _ (.tail _ (.tail _ (.tail _ (.head _)))))))))) | exact .tail _ (.tail _ (.tail _ (.tail _ (.tail _ (.tail _ (.tail _ (.tail _ (.tail _ (.tail _ (.tail _ (.head _))))))))))) | exact .tail _ (.tail _ (.tail _ (.tail _ (.tail _ (.tail _ (.tail _ (.tail _ (.tail _ (.tail _ (.tail _ (.tail _ (.head _)))))))))))) | exact .tail _ (.tail _ (.tail _ (.tail _ (.tail _ (.tail _ (.tail _ (.tail _ (.tail _ (.tail _ (.tail _ (.tail _ (.tail _ (.head _)))))))))))))) rfl) ?_
              refine GA_y 7 rfl (by kernel_rfl) (by kernel_rfl) (by kernel_rfl) (fun _ _ _ h => h) rfl rfl rfl (Y_move rfl) ?_
              refine GA_y 8 rfl (by kernel_rfl) (by kernel_rfl) (by kernel_rfl) (fun _ _ _ h => h) rfl rfl rfl (Y_recAt segL_len (by decide) sl22 hs2 rfl rfl hk2 rfl) ?_
              refine GA_y 9 rfl (by kernel_rfl) (by kernel_rfl) (by kernel_rfl) (fun _ _ _ h => h) rfl rfl rfl (Y_recAll segL_len ag47 hs2 (by simp) rfl hk2) ?_
              refine GA_y 10 rfl (by kernel_rfl) (by kernel_rfl) (by kernel_rfl) (fun _ _ _ h => h) rfl rfl rfl (Y_neqSeg rfl rfl) ?_
              refine GA_done (by kernel_rfl) ?_
              (repeat (first | (with_reducible refine R_seq ?_) | (with_reducible refine R_block_normal ?_)))
              (repeat (with_reducible refine G_seq ?_))
              refine G_cond rfl (fun h58 => ?_) (fun h58 => ?_)
              · -- yes
                simp at h58
                (repeat (with_reducible refine G_seq ?_))
                refine G_region ?_
                refine GL_y rfl rfl (Y_assign rfl) ?_
                refine GL_nil ?_
                (repeat (first | (with_reducible refine R_seq ?_) | (with_reducible refine R_block_normal ?_)))
                (repeat (with_reducible refine G_seq ?_))
                refine G_ret ?_
                (repeat (first | (with_reducible refine R_then_ret ?_) | (with_reducible refine R_block_ret ?_)))
                refine R_ret (.tmp rfl .nil) [] .nil ⟨congrArg Value.bool ?_, rfl⟩
                exact (decide_eq_false fun e => h58 (by rw [e, hk2] at hk; injection hk with hk; exact hk.symm)).symm
              · -- no
                simp at h58
                (repeat (with_reducible refine G_seq ?_))
                refine G_skip ?_
                (repeat (first | (with_reducible refine R_seq ?_) | (with_reducible refine R_block_normal ?_)))
                (repeat (with_reducible refine G_seq ?_))
                refine G_region ?_
                refine GL_y rfl rfl (Y_move rfl) ?_
                refine GL_y rfl rfl (Y_addN (b := 1) rfl rfl (by first | omega | decide)) ?_
                refine GL_y rfl rfl (Y_assign rfl) ?_
                refine GL_nil ?_
                (repeat (first | (with_reducible refine R_seq ?_) | (with_reducible refine R_block_normal ?_)))
                (repeat (with_reducible refine R_block_normal ?_))
                refine R_fam (i + 1) ?_ (⟨by first | rfl | decide, by first | rfl | decide, by first | rfl | decide, by first | rfl | decide, trivial⟩) (by repeat (first | exact .nil | exact Pick.rfl' _ | exact Pick.skip (Pick.rfl' _) | exact Pick.skip (Pick.skip (Pick.rfl' _)) | (apply Pick.cons; focus (first | exact .head | exact (.tail .head) | exact (.tail (.tail .head)) | exact (.tail (.tail (.tail .head))) | exact (.tail (.tail (.tail (.tail .head)))) | exact (.tail (.tail (.tail (.tail (.tail .head))))) | exact (.tail (.tail (.tail (.tail (.tail (.tail .head)))))) | exact (.tail (.tail (.tail (.tail (.tail (.tail (.tail .head))))))) | exact (.tail (.tail (.tail (.tail (.tail (.tail (.tail (.tail .head)))))))) | exact (.tail (.tail (.tail (.tail (.tail (.tail (.tail (.tail (.tail .head))))))))) | exact (.tail (.tail (.tail (.tail (.tail (.tail (.tail (.tail (.tail (.tail .head)))))))))) | exact (.tail (.tail (.tail (.tail (.tail (.tail (.tail (.tail (.tail (.tail (.tail .head))))))))))) | exact (.tail (.tail (.tail (.tail (.tail (.tail (.tail (.tail (.tail (.tail (.tail (.tail .head)))))))))))) | exact (.tail (.tail (.tail (.tail (.tail (.tail (.tail (.tail (.tail (.tail (.tail (.tail (.tail .head)))))))))))))))))
                have ht45 : i < m1.segs.length := ht45
                refine ⟨⟨by omega, fun q hq => ?_⟩, by omega⟩
                by_cases hqe : q = i
                · subst hqe; rw [hk, hk2, h58]
                · exact hinv q (by omega)
            · -- no
              (repeat (with_reducible refine G_seq ?_))
              refine G_exit ?_
              (repeat (first | (with_reducible refine R_then_exit ?_) | (with_reducible refine R_block_exit ?_) | (with_reducible refine R_block_other (by decide) ?_)))
              (repeat (first | (with_reducible refine R_seq ?_) | (with_reducible refine R_block_normal ?_)))
              (repeat (with_reducible refine G_seq ?_))
              refine G_region ?_
              refine GL_y rfl rfl (Y_assign rfl) ?_
              refine GL_nil ?_
              (repeat (first | (with_reducible refine R_seq ?_) | (with_reducible refine R_block_normal ?_)))
              (repeat (with_reducible refine G_seq ?_))
              refine G_ret ?_
              (repeat (first | (with_reducible refine R_then_ret ?_) | (with_reducible refine R_block_ret ?_)))
              have ht45 : ¬ i < m1.segs.length := ht45
              refine R_ret (.tmp rfl .nil) [] .nil ⟨congrArg Value.bool ?_, rfl⟩
              have hsg : m1.segs = m2.segs := List.ext_getElem? fun q => by
                by_cases hq : q < i
                · exact hinv q hq
                · rw [List.getElem?_eq_none (by omega), List.getElem?_eq_none (by omega)]
              refine (decide_eq_true ?_).symm
              cases m1; cases m2
              simp_all
theorem clone_is {ao : Option Addr} {c l : Nat} {bs : List UInt8} {w : World} (hs : SlAt w ao (B bs)) (hlen : bs.length ≤ 100000) (hn : ao ≠ none) (e : l = bs.length) :
    FnAt Try.prog 27 [.slice ao l c] [] w (Ret fun v N => ∃ b c', bs.length ≤ c' ∧ v = .slice (some ⟨b, 0, none⟩) bs.length c' ∧ N = [⟨b, 5, c' * 1, B bs, (0, 0)⟩]) := by
  subst e
  refine FnAt.intro Try.func27 rfl Try.ntmps27 rfl _ rfl ?_
  (repeat (with_reducible refine G_seq ?_))
  refine G_region ?_
  refine GL_y rfl rfl (Y_assign rfl) ?_
  refine GL_nil ?_
  (repeat (first | (with_reducible refine R_seq ?_) | (with_reducible refine R_block_normal ?_)))
  (repeat (with_reducible refine G_seq ?_))
  refine G_region ?_
  refine GL_y rfl rfl (Y_move rfl) ?_
  refine GL_y rfl rfl (Y_eqNil Try.underlying25 rfl rfl) ?_
  refine GL_nil ?_
  (repeat (first | (with_reducible refine R_seq ?_) | (with_reducible refine R_block_normal ?_)))
  (repeat (with_reducible refine G_seq ?_))
  refine G_cond_f rfl (by cases ao with | none => exact absurd rfl hn | some a => rfl) ?_
  (repeat (with_reducible refine G_seq ?_))
  refine G_skip ?_
  (repeat (first | (with_reducible refine R_seq ?_) | (with_reducible refine R_block_normal ?_)))
  (repeat (with_reducible refine G_seq ?_))
  refine G_region ?_
  refine GL_w rfl rfl (W_bs0 Try.underlying25 el5 fun b5 => ?_)
  refine GL_y rfl rfl (Y_move rfl) ?_
  refine GL_w rfl rfl (W_appB (bs := []) bs Try.underlying25 el5 rfl rfl (by first | exact .head | exact (.tail .head) | exact (.tail (.tail .head)) | exact (.tail (.tail (.tail .head))) | exact (.tail (.tail (.tail (.tail .head)))) | exact (.tail (.tail (.tail (.tail (.tail .head))))) | exact (.tail (.tail (.tail (.tail (.tail (.tail .head)))))) | exact (.tail (.tail (.tail (.tail (.tail (.tail (.tail .head))))))) | exact (.tail (.tail (.tail (.tail (.tail (.tail (.tail (.tail .head)))))))) | exact (.tail (.tail (.tail (.tail (.tail (.tail (.tail (.tail (.tail .head))))))))) | exact (.tail (.tail (.tail (.tail (.tail (.tail (.tail (.tail (.tail (.tail .head)))))))))) | exact (.tail (.tail (.tail (.tail (.tail (.tail (.tail (.tail (.tail (.tail (.tail .head))))))))))) | exact (.tail (.tail (.tail (.tail (.tail (.tail (.tail (.tail (.tail (.tail (.tail (.tail .head)))))))))))) | exact (.tail (.tail (.tail (.tail (.tail (.tail (.tail (.tail (.tail (.tail (.tail (.tail (.tail .head)))))))))))))) rfl rfl (.inl rfl) (fun w s => hs.keep s (by simp)) (by simp; omega) fun b7 c7 h7 => ?_)
  refine GL_y rfl rfl (Y_assign rfl) ?_
  refine GL_nil ?_
  (repeat (first | (with_reducible refine R_seq ?_) | (with_reducible refine R_block_normal ?_)))
  (repeat (with_reducible refine G_seq ?_))
  refine G_ret ?_
  (repeat (first | (with_reducible refine R_then_ret ?_) | (with_reducible refine R_block_ret ?_)))
  refine R_ret (.tmp rfl .nil) [⟨b7, 5, c7 * 1, B ([] ++ bs), (0, 0)⟩] (by repeat (first | exact .nil | exact Pick.rfl' _ | exact Pick.skip (Pick.rfl' _) | exact Pick.skip (Pick.skip (Pick.rfl' _)) | (apply Pick.cons; focus (first | exact .head | exact (.tail .head) | exact (.tail (.tail .head)) | exact (.tail (.tail (.tail .head))) | exact (.tail (.tail (.tail (.tail .head)))) | exact (.tail (.tail (.tail (.tail (.tail .head))))) | exact (.tail (.tail (.tail (.tail (.tail (.tail .head)))))) | exact (.tail (.tail (.tail (.tail (.tail (.tail (.tail .head))))))) | exact (.tail (.tail (.tail (.tail (.tail (.tail (.tail (.tail .head)))))))) | exact (.tail (.tail (.tail (.tail (.tail (.tail (.tail (.tail (.tail .head))))))))) | exact (.tail (.tail (.tail (.tail (.tail (.tail (.tail (.tail (.tail (.tail .head)))))))))) | exact (.tail (.tail (.tail (.tail (.tail (.tail (.tail (.tail (.tail (.tail (.tail .head))))))))))) | exact (.tail (.tail (.tail (.tail (.tail (.tail (.tail (.tail (.tail (.tail (.tail (.tail .head)))))))))))) | exact (.tail (.tail (.tail (.tail (.tail (.tail (.tail (.tail (.tail (.tail (.tail (.tail (.tail .head))))))))))))))))) ⟨b7, c7, h7, rfl, rfl⟩
end Go.Proofs.Ythabomkcangegaa

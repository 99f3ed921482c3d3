/-
  The laws KeysRevoked, KeysEach.
-/
import Derived.Test.YtkdodpcafamhaaaKG
namespace Go.Proofs.Ytkdodpcafamhaaa
open Go Go.Sl Go.RowKit


section
variable {n : Nat} {D : List Deferred} {X : List Nat} {w0 : World} {E : Env} {M : List Blk} {tt : TypeId} {ao : Option Addr} {l c j : Nat} {x i : Operand} {k : IntKind} {zs : List Int} {z : Int}
theorem Y_nAt (hs : SlAt w0 ao (zs.map (Value.int .i64))) (hx : ev E x = some (.slice ao l c)) (hi : ev E i = some (.int k (j : Int))) (hk : zs[j]? = some z) (hl : l = zs.length) :
    Yl Try.prog n D X w0 E M (.indexAddr 41 x i) tt (.pointer (some ⟨adb ao, ado ao + j, none⟩)) :=
  Y_idxS1 sl41 hx (hs.addr fun e => by
    have h1 := (List.getElem?_eq_some_iff.1 hk).1
    rw [List.map_eq_nil_iff] at e; subst e; simp at h1) hi (by rw [hl]; exact (List.getElem?_eq_some_iff.1 hk).1)
theorem Y_nGet (hs : SlAt w0 ao (zs.map (Value.int .i64))) (hX : adb ao ∉ X) (hx : ev E x = some (.pointer (some ⟨adb ao, ado ao + j, none⟩))) (hk : zs[j]? = some z) :
    Yl Try.prog n D X w0 E M (.load 3 x) tt (.int .i64 z) :=
  Y_loadX hx sc3 hs.cells hX rfl (by simp [hk])
end
structure RI where
  i : Nat
  ao : Option Addr
  c : Nat
  N : List Blk
set_option maxHeartbeats 4000000 in
theorem rev_long1 {ao nao : Option Addr} {c nc : Nat} {ring : List KeyD} {nums : List Int} {x : Int} {w : World} (hl : 100 < ring.length) : FnAt Try.prog 4 [.slice ao ring.length c, .slice nao nums.length nc, .int .i64 x] [] w (Ret fun v N => v = .bool true ∧ N = []) := by
  refine FnAt.intro Try.func4 rfl Try.ntmps4 rfl _ rfl ?_
  (repeat (with_reducible refine G_seq ?_))
  refine G_region ?_
  refine GL_y rfl rfl (Y_assign rfl) ?_
  refine GL_nil ?_
  (repeat (first | (with_reducible refine R_seq ?_) | (with_reducible refine R_block_normal ?_)))
  (repeat (with_reducible refine G_seq ?_))
  refine G_region ?_
  refine GL_y rfl rfl (Y_move rfl) ?_
  refine GL_y rfl rfl (Y_len sl22 rfl) ?_
  refine GL_y rfl rfl (Y_gtrN (b := 100) rfl rfl) ?_
  refine GL_y rfl rfl (Y_move rfl) ?_
  refine GL_bool 22 rfl (fun g22 => ?_) (fun g22 => ?_)
  · -- g22 True
    refine GL_skip rfl rfl ?_
    refine GL_skip rfl rfl ?_
    refine GL_skip rfl rfl ?_
    refine GL_y rfl rfl (Y_pick rfl rfl rfl rfl) ?_
    refine GL_nil ?_
    (repeat (first | (with_reducible refine R_seq ?_) | (with_reducible refine R_block_normal ?_)))
    (repeat (with_reducible refine G_seq ?_))
    refine G_cond_t rfl (by first | rfl | decide | (simp; done) | (simp; omega)) ?_
    (repeat (with_reducible refine G_seq ?_))
    refine G_region ?_
    refine GL_y rfl rfl (Y_assign rfl) ?_
    refine GL_nil ?_
    (repeat (first | (with_reducible refine R_seq ?_) | (with_reducible refine R_block_normal ?_)))
    (repeat (with_reducible refine G_seq ?_))
    refine G_ret ?_
    (repeat (first | (with_reducible refine R_then_ret ?_) | (with_reducible refine R_block_ret ?_)))
    refine R_ret (.tmp rfl .nil) [] .nil ⟨rfl, rfl⟩
  · -- g22 False
    exact absurd g22 (by simp; omega)
set_option maxHeartbeats 4000000 in
theorem rev_long2 {ao nao : Option Addr} {c nc : Nat} {ring : List KeyD} {nums : List Int} {x : Int} {w : World} (hl : ring.length ≤ 100) (hn : 30 < nums.length) : FnAt Try.prog 4 [.slice ao ring.length c, .slice nao nums.length nc, .int .i64 x] [] w (Ret fun v N => v = .bool true ∧ N = []) := by
  refine FnAt.intro Try.func4 rfl Try.ntmps4 rfl _ rfl ?_
  (repeat (with_reducible refine G_seq ?_))
  refine G_region ?_
  refine GL_y rfl rfl (Y_assign rfl) ?_
  refine GL_nil ?_
  (repeat (first | (with_reducible refine R_seq ?_) | (with_reducible refine R_block_normal ?_)))
  (repeat (with_reducible refine G_seq ?_))
  refine G_region ?_
  refine GL_y rfl rfl (Y_move rfl) ?_
  refine GL_y rfl rfl (Y_len sl22 rfl) ?_
  refine GL_y rfl rfl (Y_gtrN (b := 100) rfl rfl) ?_
  refine GL_y rfl rfl (Y_move rfl) ?_
  refine GL_bool 22 rfl (fun g22 => ?_) (fun g22 => ?_)
  · -- g22 True
    exact absurd g22 (by simp; omega)
  · -- g22 False
    refine GL_y rfl rfl (Y_move rfl) ?_
    refine GL_y rfl rfl (Y_len sl41 rfl) ?_
    refine GL_y rfl rfl (Y_gtrN (b := 30) rfl rfl) ?_
    refine GL_y rfl rfl (Y_pick rfl rfl rfl rfl) ?_
    refine GL_nil ?_
    (repeat (first | (with_reducible refine R_seq ?_) | (with_reducible refine R_block_normal ?_)))
    (repeat (with_reducible refine G_seq ?_))
    refine G_cond_t rfl (by simp; omega) ?_
    (repeat (with_reducible refine G_seq ?_))
    refine G_region ?_
    refine GL_y rfl rfl (Y_assign rfl) ?_
    refine GL_nil ?_
    (repeat (first | (with_reducible refine R_seq ?_) | (with_reducible refine R_block_normal ?_)))
    (repeat (with_reducible refine G_seq ?_))
    refine G_ret ?_
    (repeat (first | (with_reducible refine R_then_ret ?_) | (with_reducible refine R_block_ret ?_)))
    refine R_ret (.tmp rfl .nil) [] .nil ⟨rfl, rfl⟩
set_option maxHeartbeats 4000000 in
theorem rev_bad {ao nao : Option Addr} {c nc : Nat} {ring : List KeyD} {nums : List Int} {x : Int} {w : World} (hs : SlAt w ao (ringL ring)) (hl : ring.length ≤ 100) (hn : nums.length ≤ 30) (hm : mayB ring = false) : FnAt Try.prog 4 [.slice ao ring.length c, .slice nao nums.length nc, .int .i64 x] [] w (Ret fun v N => v = .bool true ∧ N = []) := by
  refine FnAt.intro Try.func4 rfl Try.ntmps4 rfl _ rfl ?_
  (repeat (with_reducible refine G_seq ?_))
  refine G_region ?_
  refine GL_y rfl rfl (Y_assign rfl) ?_
  refine GL_nil ?_
  (repeat (first | (with_reducible refine R_seq ?_) | (with_reducible refine R_block_normal ?_)))
  (repeat (with_reducible refine G_seq ?_))
  refine G_region ?_
  refine GL_y rfl rfl (Y_move rfl) ?_
  refine GL_y rfl rfl (Y_len sl22 rfl) ?_
  refine GL_y rfl rfl (Y_gtrN (b := 100) rfl rfl) ?_
  refine GL_y rfl rfl (Y_move rfl) ?_
  refine GL_bool 22 rfl (fun g22 => ?_) (fun g22 => ?_)
  · -- g22 True
    exact absurd g22 (by simp; omega)
  · -- g22 False
    refine GL_y rfl rfl (Y_move rfl) ?_
    refine GL_y rfl rfl (Y_len sl41 rfl) ?_
    refine GL_y rfl rfl (Y_gtrN (b := 30) rfl rfl) ?_
    refine GL_y rfl rfl (Y_pick rfl rfl rfl rfl) ?_
    refine GL_nil ?_
    (repeat (first | (with_reducible refine R_seq ?_) | (with_reducible refine R_block_normal ?_)))
    (repeat (with_reducible refine G_seq ?_))
    refine G_cond_f rfl (by simp; omega) ?_
    (repeat (with_reducible refine G_seq ?_))
    refine G_skip ?_
    (repeat (first | (with_reducible refine R_seq ?_) | (with_reducible refine R_block_normal ?_)))
    (repeat (with_reducible refine G_seq ?_))
    refine G_region ?_
    refine GL_y rfl rfl (Y_move rfl) ?_
    refine GL_call rfl rfl rfl rfl Try.call13 .nil (fun w hw => refMay_is (hs.keep hw (by simp)) (by omega) hm) ?_
    rintro _ _ ⟨rfl, rfl⟩
    refine GL_y rfl rfl (Y_not rfl) ?_
    refine GL_nil ?_
    (repeat (first | (with_reducible refine R_seq ?_) | (with_reducible refine R_block_normal ?_)))
    (repeat (with_reducible refine G_seq ?_))
    refine G_cond_t rfl (by first | rfl | decide | (simp; done) | (simp; omega)) ?_
    (repeat (with_reducible refine G_seq ?_))
    refine G_region ?_
    refine GL_call rfl rfl rfl rfl Try.call14 .nil (fun w hw => awake_is) ?_
    rintro _ _ ⟨rfl, rfl⟩
    refine GL_y rfl rfl (Y_assign rfl) ?_
    refine GL_nil ?_
    (repeat (first | (with_reducible refine R_seq ?_) | (with_reducible refine R_block_normal ?_)))
    (repeat (with_reducible refine G_seq ?_))
    refine G_ret ?_
    (repeat (first | (with_reducible refine R_then_ret ?_) | (with_reducible refine R_block_ret ?_)))
    refine R_ret (.tmp rfl .nil) [] .nil ⟨rfl, rfl⟩
set_option maxHeartbeats 4000000 in
theorem rev_hit {ao nao : Option Addr} {c nc : Nat} {ring : List KeyD} {nums : List Int} {x : Int} {w : World} (hs : SlAt w ao (ringL ring)) (hn : SlAt w nao (nums.map (Value.int .i64))) (hl : ring.length ≤ 100) (hnl : nums.length ≤ 30) (hm : mayB ring = true) (hx : x ∈ nums) : FnAt Try.prog 4 [.slice ao ring.length c, .slice nao nums.length nc, .int .i64 x] [] w (Ret fun v N => v = .bool true ∧ N = []) := by
  refine FnAt.intro Try.func4 rfl Try.ntmps4 rfl _ rfl ?_
  (repeat (with_reducible refine G_seq ?_))
  refine G_region ?_
  refine GL_y rfl rfl (Y_assign rfl) ?_
  refine GL_nil ?_
  (repeat (first | (with_reducible refine R_seq ?_) | (with_reducible refine R_block_normal ?_)))
  (repeat (with_reducible refine G_seq ?_))
  refine G_region ?_
  refine GL_y rfl rfl (Y_move rfl) ?_
  refine GL_y rfl rfl (Y_len sl22 rfl) ?_
  refine GL_y rfl rfl (Y_gtrN (b := 100) rfl rfl) ?_
  refine GL_y rfl rfl (Y_move rfl) ?_
  refine GL_bool 22 rfl (fun g22 => ?_) (fun g22 => ?_)
  · -- g22 True
    exact absurd g22 (by simp; omega)
  · -- g22 False
    refine GL_y rfl rfl (Y_move rfl) ?_
    refine GL_y rfl rfl (Y_len sl41 rfl) ?_
    refine GL_y rfl rfl (Y_gtrN (b := 30) rfl rfl) ?_
    refine GL_y rfl rfl (Y_pick rfl rfl rfl rfl) ?_
    refine GL_nil ?_
    (repeat (first | (with_reducible refine R_seq ?_) | (with_reducible refine R_block_normal ?_)))
    (repeat (with_reducible refine G_seq ?_))
    refine G_cond_f rfl (by simp; omega) ?_
    (repeat (with_reducible refine G_seq ?_))
    refine G_skip ?_
    (repeat (first | (with_reducible refine R_seq ?_) | (with_reducible refine R_block_normal ?_)))
    (repeat (with_reducible refine G_seq ?_))
    refine G_region ?_
    refine GL_y rfl rfl (Y_move rfl) ?_
    refine GL_call rfl rfl rfl rfl Try.call13 .nil (fun w hw => refMay_is (hs.keep hw (by simp)) (by omega) hm) ?_
    rintro _ _ ⟨rfl, rfl⟩
    refine GL_y rfl rfl (Y_not rfl) ?_
    refine GL_nil ?_
    (repeat (first | (with_reducible refine R_seq ?_) | (with_reducible refine R_block_normal ?_)))
    (repeat (with_reducible refine G_seq ?_))
    refine G_cond_f rfl (by first | rfl | decide | (simp; done) | (simp; omega)) ?_
    (repeat (with_reducible refine G_seq ?_))
    refine G_skip ?_
    (repeat (first | (with_reducible refine R_seq ?_) | (with_reducible refine R_block_normal ?_)))
    (repeat (with_reducible refine G_seq ?_))
    refine G_region ?_
    refine GL_y rfl rfl (Y_move rfl) ?_
    refine GL_y rfl rfl (Y_move rfl) ?_
    refine GL_call rfl rfl rfl rfl Try.call10 .nil (fun w hw => find_is (hs.keep hw (by simp)) (by omega)) ?_
    rintro _ _ ⟨rfl, rfl⟩
    refine GL_y rfl rfl (Y_move rfl) ?_
    refine GL_y rfl rfl (Y_extract rfl rfl) ?_
    refine GL_y rfl rfl (Y_extract rfl rfl) ?_
    refine GL_w rfl rfl (W_alloc zr28 fun b7 => ?_)
    refine GL_s rfl (S_all rfl rfl ag28 (by rw [len_B, find_len]) (all_B _) (by first | exact .head | exact (.tail .head) | exact (.tail (.tail .head)) | exact (.tail (.tail (.tail .head))) | exact (.tail (.tail (.tail (.tail .head)))) | exact (.tail (.tail (.tail (.tail (.tail .head))))) | exact (.tail (.tail (.tail (.tail (.tail (.tail .head)))))) | exact (.tail (.tail (.tail (.tail (.tail (.tail (.tail .head))))))) | exact (.tail (.tail (.tail (.tail (.tail (.tail (.tail (.tail .head)))))))) | exact (.tail (.tail (.tail (.tail (.tail (.tail (.tail (.tail (.tail .head))))))))) | exact (.tail (.tail (.tail (.tail (.tail (.tail (.tail (.tail (.tail (.tail .head)))))))))) | exact (.tail (.tail (.tail (.tail (.tail (.tail (.tail (.tail (.tail (.tail (.tail .head))))))))))) | exact (.tail (.tail (.tail (.tail (.tail (.tail (.tail (.tail (.tail (.tail (.tail (.tail .head)))))))))))) | exact (.tail (.tail (.tail (.tail (.tail (.tail (.tail (.tail (.tail (.tail (.tail (.tail (.tail .head)))))))))))))) (by rfl)) ?_
    refine GL_y rfl rfl (Y_assign rfl) ?_
    refine GL_nil ?_
    (repeat (first | (with_reducible refine R_seq ?_) | (with_reducible refine R_block_normal ?_)))
    (repeat (with_reducible refine G_seq ?_))
    refine G_region ?_
    refine GL_y rfl rfl (Y_move rfl) ?_
    refine GL_call rfl rfl rfl rfl Try.call8 .nil (fun w hw => own_is (hs.keep hw (by simp)) (by omega)) ?_
    rintro _ N0 ⟨ao1, c1, rfl, hO0⟩
    refine GL_perm (⟨b7, 28, (List.replicate 32 (bv 0)).length, B (findD ring x).1, (0, 0)⟩ :: N0) List.perm_append_comm ?_
    refine GL_y rfl rfl (Y_assign rfl) ?_
    refine GL_nil ?_
    (repeat (first | (with_reducible refine R_seq ?_) | (with_reducible refine R_block_normal ?_)))
    (repeat (with_reducible refine G_seq ?_))
    refine G_region ?_
    refine GL_y rfl rfl (Y_assign rfl) ?_
    refine GL_nil ?_
    (repeat (first | (with_reducible refine R_seq ?_) | (with_reducible refine R_block_normal ?_)))
    (repeat (with_reducible refine G_seq ?_))
    refine G_region ?_
    refine GL_y rfl rfl (Y_assign rfl) ?_
    refine GL_nil ?_
    (repeat (first | (with_reducible refine R_seq ?_) | (with_reducible refine R_block_normal ?_)))
    (repeat (with_reducible refine G_seq ?_))
    refine G_block ?_
    (repeat (with_reducible refine G_seq ?_))
    refine G_loop (ι := RI) (fun i => nums.length - i.i) (fun i => i.i ≤ nums.length ∧ Own i.N i.ao i.c (revL ring (nums.take i.i))) (fun i => [(0, .slice ao ring.length c), (1, .slice nao nums.length nc), (2, .int .i64 x), (6, .bool false), (7, .pointer (some ⟨b7, 0, none⟩)), (8, .int .i64 ((findD ring x).2 : Nat)), (9, .slice i.ao ring.length i.c), (10, .bool (decide (x ∈ nums.take i.i))), (11, .int .i64 (i.i : Int))]) (fun i => ⟨b7, 28, (List.replicate 32 (bv 0)).length, B (findD ring x).1, (0, 0)⟩ :: i.N) ⟨0, ao1, c1, N0⟩ ?_ (⟨by first | rfl | decide, by first | rfl | decide, by first | rfl | decide, by first | rfl | decide, by first | rfl | decide, by first | rfl | decide, by first | rfl | decide, by first | rfl | decide, by first | rfl | decide, trivial⟩) (by repeat (first | exact .nil | exact Pick.rfl' _ | exact Pick.skip (Pick.rfl' _) | exact Pick.skip (Pick.skip (Pick.rfl' _)) | (apply Pick.cons; focus (first | exact .head | exact (.tail .head) | exact (.tail (.tail .head)) | exact (.tail (.tail (.tail .head))) | exact (.tail (.tail (.tail (.tail .head)))) | exact (.tail (.tail (.tail (.tail (.tail .head))))) | exact (.tail (.tail (.tail (.tail (.tail (.tail .head)))))) | exact (.tail (.tail (.tail (.tail (.tail (.tail (.tail .head))))))) | exact (.tail (.tail (.tail (.tail (.tail (.tail (.tail (.tail .head)))))))) | exact (.tail (.tail (.tail (.tail (.tail (.tail (.tail (.tail (.tail .head))))))))) | exact (.tail (.tail (.tail (.tail (.tail (.tail (.tail (.tail (.tail (.tail .head)))))))))) | exact (.tail (.tail (.tail (.tail (.tail (.tail (.tail (.tail (.tail (.tail (.tail .head))))))))))) | exact (.tail (.tail (.tail (.tail (.tail (.tail (.tail (.tail (.tail (.tail (.tail (.tail .head)))))))))))) | exact (.tail (.tail (.tail (.tail (.tail (.tail (.tail (.tail (.tail (.tail (.tail (.tail (.tail .head))))))))))))))))) ?_
    · exact ⟨by simp, by simpa [revL_nil] using hO0⟩
    intro i ⟨hi, hO⟩
    (repeat (with_reducible refine G_seq ?_))
    refine G_region ?_
    refine GL_y rfl rfl (Y_move rfl) ?_
    refine GL_y rfl rfl (Y_move rfl) ?_
    refine GL_y rfl rfl (Y_len sl41 rfl) ?_
    refine GL_y rfl rfl (Y_lssN rfl rfl) ?_
    refine GL_nil ?_
    (repeat (first | (with_reducible refine R_seq ?_) | (with_reducible refine R_block_normal ?_)))
    (repeat (with_reducible refine G_seq ?_))
    refine G_cond_dec rfl (fun ht42 => ?_) (fun ht42 => ?_)
    · -- yes
      (repeat (with_reducible refine G_seq ?_))
      refine G_skip ?_
      (repeat (first | (with_reducible refine R_seq ?_) | (with_reducible refine R_block_normal ?_)))
      (repeat (with_reducible refine G_seq ?_))
      refine G_block ?_
      obtain ⟨y, hy⟩ : ∃ y, nums[i.i]? = some y := ⟨nums[i.i], List.getElem?_eq_getElem ht42⟩
      have hts : nums.take (i.i + 1) = nums.take i.i ++ [y] := by rw [List.take_add_one, hy]; rfl
      (repeat (with_reducible refine G_seq ?_))
      refine G_region ?_
      refine GL_y rfl rfl (Y_move rfl) ?_
      refine GL_y rfl rfl (Y_move rfl) ?_
      refine GL_y rfl rfl (Y_move rfl) ?_
      refine GL_y rfl rfl (Y_nAt hn rfl rfl hy rfl) ?_
      refine GL_y rfl rfl (Y_nGet hn (by simp) rfl hy) ?_
      refine GL_call rfl rfl rfl rfl Try.call11 .nil (fun w hw => revoke_any (hO.sl hw.tail) (by omega) rfl hm) ?_
      rintro _ N1 ⟨e1, ao2, l2, c2, rfl, hcase⟩
      refine GL_y rfl rfl (Y_move rfl) ?_
      refine GL_y rfl rfl (Y_extract rfl rfl) ?_
      refine GL_y rfl rfl (Y_extract rfl rfl) ?_
      refine GL_y rfl rfl (Y_assign rfl) ?_
      refine GL_y rfl rfl (Y_assign rfl) ?_
      refine GL_nil ?_
      (repeat (first | (with_reducible refine R_seq ?_) | (with_reducible refine R_block_normal ?_)))
      (repeat (with_reducible refine G_seq ?_))
      refine G_region ?_
      refine GL_y rfl rfl (Y_move rfl) ?_
      refine GL_y rfl rfl (Y_iop rfl rfl rfl) ?_
      refine GL_nil ?_
      (repeat (first | (with_reducible refine R_seq ?_) | (with_reducible refine R_block_normal ?_)))
      refine G_then_cut (ι := RI) (fun j => j.i = i.i ∧ Own j.N j.ao j.c (revL ring (nums.take (i.i + 1)))) (fun j => [(0, .slice ao ring.length c), (1, .slice nao nums.length nc), (2, .int .i64 x), (6, .bool false), (7, .pointer (some ⟨b7, 0, none⟩)), (8, .int .i64 ((findD ring x).2 : Nat)), (9, .slice j.ao ring.length j.c), (10, .bool (decide (x ∈ nums.take i.i))), (11, .int .i64 (i.i : Int))]) (fun j => ⟨b7, 28, (List.replicate 32 (bv 0)).length, B (findD ring x).1, (0, 0)⟩ :: j.N) ?_ ?_
      · -- up to the cut
        refine G_cond rfl (fun h55 => ?_) (fun h55 => ?_)
        · -- yes
          have h55 := of_decide_eq_true h55
          rcases hcase with ⟨rfl, _⟩ | ⟨_, rfl, b2, rfl, rfl⟩
          · omega
          (repeat (with_reducible refine G_seq ?_))
          refine G_region ?_
          refine GL_y rfl rfl (Y_move rfl) ?_
          refine GL_y rfl rfl (Y_assign rfl) ?_
          refine GL_nil ?_
          (repeat (first | (with_reducible refine R_seq ?_) | (with_reducible refine R_block_normal ?_)))
          (repeat (first | (with_reducible refine R_seq ?_) | (with_reducible refine R_block_normal ?_)))
          refine R_fam ⟨i.i, some ⟨b2, 0, none⟩, c2, [⟨b2, 39, c2 * 34, ringL (revL ring (nums.take i.i ++ [y])), (0, 0)⟩]⟩ ?_ (⟨by first | rfl | decide, by first | rfl | decide, by first | rfl | decide, by first | rfl | decide, by first | rfl | decide, by first | rfl | decide, by first | rfl | decide, by first | rfl | decide, by first | rfl | decide, trivial⟩) (by repeat (first | exact .nil | exact Pick.rfl' _ | exact Pick.skip (Pick.rfl' _) | exact Pick.skip (Pick.skip (Pick.rfl' _)) | (apply Pick.cons; focus (first | exact .head | exact (.tail .head) | exact (.tail (.tail .head)) | exact (.tail (.tail (.tail .head))) | exact (.tail (.tail (.tail (.tail .head)))) | exact (.tail (.tail (.tail (.tail (.tail .head))))) | exact (.tail (.tail (.tail (.tail (.tail (.tail .head)))))) | exact (.tail (.tail (.tail (.tail (.tail (.tail (.tail .head))))))) | exact (.tail (.tail (.tail (.tail (.tail (.tail (.tail (.tail .head)))))))) | exact (.tail (.tail (.tail (.tail (.tail (.tail (.tail (.tail (.tail .head))))))))) | exact (.tail (.tail (.tail (.tail (.tail (.tail (.tail (.tail (.tail (.tail .head)))))))))) | exact (.tail (.tail (.tail (.tail (.tail (.tail (.tail (.tail (.tail (.tail (.tail .head))))))))))) | exact (.tail (.tail (.tail (.tail (.tail (.tail (.tail (.tail (.tail (.tail (.tail (.tail .head)))))))))))) | exact (.tail (.tail (.tail (.tail (.tail (.tail (.tail (.tail (.tail (.tail (.tail (.tail (.tail .head)))))))))))))))))
          exact ⟨rfl, .inr ⟨b2, rfl, by rw [hts]⟩⟩
        · -- no
          have h55 := of_decide_eq_false h55
          rcases hcase with ⟨rfl, rfl, rfl, hR⟩ | ⟨rfl, _⟩
          rotate_left
          · omega
          (repeat (with_reducible refine G_seq ?_))
          refine G_region ?_
          refine GL_y rfl rfl (Y_move rfl) ?_
          refine GL_y rfl rfl (Y_iop (v := .bool false) rfl rfl rfl) ?_
          refine GL_y rfl rfl (Y_move rfl) ?_
          refine GL_y rfl rfl (Y_move rfl) ?_
          refine GL_y rfl rfl (Y_len sl22 rfl) ?_
          refine GL_y rfl rfl (Y_iop (v := .bool false) rfl rfl rfl) ?_
          refine GL_y rfl rfl (Y_pick rfl rfl rfl rfl) ?_
          refine GL_nil ?_
          (repeat (first | (with_reducible refine R_seq ?_) | (with_reducible refine R_block_normal ?_)))
          (repeat (with_reducible refine G_seq ?_))
          refine G_cond_f rfl (by first | rfl | decide | (simp; done) | (simp; omega)) ?_
          (repeat (with_reducible refine G_seq ?_))
          refine G_skip ?_
          (repeat (first | (with_reducible refine R_seq ?_) | (with_reducible refine R_block_normal ?_)))
          (repeat (first | (with_reducible refine R_seq ?_) | (with_reducible refine R_block_normal ?_)))
          refine R_fam ⟨i.i, i.ao, i.c, i.N⟩ ?_ (⟨by first | rfl | decide, by first | rfl | decide, by first | rfl | decide, by first | rfl | decide, by first | rfl | decide, by first | rfl | decide, by first | rfl | decide, by first | rfl | decide, by first | rfl | decide, trivial⟩) (by repeat (first | exact .nil | exact Pick.rfl' _ | exact Pick.skip (Pick.rfl' _) | exact Pick.skip (Pick.skip (Pick.rfl' _)) | (apply Pick.cons; focus (first | exact .head | exact (.tail .head) | exact (.tail (.tail .head)) | exact (.tail (.tail (.tail .head))) | exact (.tail (.tail (.tail (.tail .head)))) | exact (.tail (.tail (.tail (.tail (.tail .head))))) | exact (.tail (.tail (.tail (.tail (.tail (.tail .head)))))) | exact (.tail (.tail (.tail (.tail (.tail (.tail (.tail .head))))))) | exact (.tail (.tail (.tail (.tail (.tail (.tail (.tail (.tail .head)))))))) | exact (.tail (.tail (.tail (.tail (.tail (.tail (.tail (.tail (.tail .head))))))))) | exact (.tail (.tail (.tail (.tail (.tail (.tail (.tail (.tail (.tail (.tail .head)))))))))) | exact (.tail (.tail (.tail (.tail (.tail (.tail (.tail (.tail (.tail (.tail (.tail .head))))))))))) | exact (.tail (.tail (.tail (.tail (.tail (.tail (.tail (.tail (.tail (.tail (.tail (.tail .head)))))))))))) | exact (.tail (.tail (.tail (.tail (.tail (.tail (.tail (.tail (.tail (.tail (.tail (.tail (.tail .head)))))))))))))))))
          refine ⟨rfl, ?_⟩
          simp only
          rw [hts, hR]; exact hO
      · -- behind the cut
        intro j ⟨_, hO2⟩
        (repeat (with_reducible refine G_seq ?_))
        refine G_region ?_
        refine GL_y rfl rfl (Y_move rfl) ?_
        refine GL_y rfl rfl (Y_move rfl) ?_
        refine GL_bool 65 rfl (fun g65 => ?_) (fun g65 => ?_)
        · -- g65 True
          refine GL_skip rfl rfl ?_
          refine GL_skip rfl rfl ?_
          refine GL_skip rfl rfl ?_
          refine GL_skip rfl rfl ?_
          refine GL_skip rfl rfl ?_
          refine GL_skip rfl rfl ?_
          refine GL_y rfl rfl (Y_pick rfl rfl rfl rfl) ?_
          refine GL_set 72 (.bool (decide (x ∈ nums.take (i.i + 1)))) rfl ?_ ?_
          · have ht := take_mem (x := x) hy
            congr 1
            exact (decide_eq_true (ht.2 (.inl (of_decide_eq_true g65)))).symm
          refine GL_y rfl rfl (Y_assign rfl) ?_
          refine GL_nil ?_
          (repeat (first | (with_reducible refine R_seq ?_) | (with_reducible refine R_block_normal ?_)))
          (repeat (with_reducible refine G_seq ?_))
          refine G_region ?_
          refine GL_y rfl rfl (Y_assign rfl) ?_
          refine GL_nil ?_
          (repeat (first | (with_reducible refine R_seq ?_) | (with_reducible refine R_block_normal ?_)))
          (repeat (with_reducible refine G_seq ?_))
          refine G_block ?_
          (repeat (with_reducible refine G_seq ?_))
          refine G_loop (ι := Nat) (fun q => i.i + 1 - q) (fun q => q ≤ i.i + 1) (fun q => [(0, .slice ao ring.length c), (1, .slice nao nums.length nc), (2, .int .i64 x), (6, .bool false), (7, .pointer (some ⟨b7, 0, none⟩)), (8, .int .i64 ((findD ring x).2 : Nat)), (9, .slice j.ao ring.length j.c), (10, .bool (decide (x ∈ nums.take (i.i + 1)))), (11, .int .i64 (i.i : Int)), (14, .int .i64 (q : Int))]) (fun q => ⟨b7, 28, (List.replicate 32 (bv 0)).length, B (findD ring x).1, (0, 0)⟩ :: j.N) 0 ?_ (⟨by first | rfl | decide, by first | rfl | decide, by first | rfl | decide, by first | rfl | decide, by first | rfl | decide, by first | rfl | decide, by first | rfl | decide, by first | rfl | decide, by first | rfl | decide, by first | rfl | decide, trivial⟩) (by repeat (first | exact .nil | exact Pick.rfl' _ | exact Pick.skip (Pick.rfl' _) | exact Pick.skip (Pick.skip (Pick.rfl' _)) | (apply Pick.cons; focus (first | exact .head | exact (.tail .head) | exact (.tail (.tail .head)) | exact (.tail (.tail (.tail .head))) | exact (.tail (.tail (.tail (.tail .head)))) | exact (.tail (.tail (.tail (.tail (.tail .head))))) | exact (.tail (.tail (.tail (.tail (.tail (.tail .head)))))) | exact (.tail (.tail (.tail (.tail (.tail (.tail (.tail .head))))))) | exact (.tail (.tail (.tail (.tail (.tail (.tail (.tail (.tail .head)))))))) | exact (.tail (.tail (.tail (.tail (.tail (.tail (.tail (.tail (.tail .head))))))))) | exact (.tail (.tail (.tail (.tail (.tail (.tail (.tail (.tail (.tail (.tail .head)))))))))) | exact (.tail (.tail (.tail (.tail (.tail (.tail (.tail (.tail (.tail (.tail (.tail .head))))))))))) | exact (.tail (.tail (.tail (.tail (.tail (.tail (.tail (.tail (.tail (.tail (.tail (.tail .head)))))))))))) | exact (.tail (.tail (.tail (.tail (.tail (.tail (.tail (.tail (.tail (.tail (.tail (.tail (.tail .head))))))))))))))))) ?_
          · omega
          intro q hq
          (repeat (with_reducible refine G_seq ?_))
          refine G_region ?_
          refine GL_y rfl rfl (Y_move rfl) ?_
          refine GL_y rfl rfl (Y_move rfl) ?_
          refine GL_y rfl rfl (Y_leqN rfl rfl) ?_
          refine GL_nil ?_
          (repeat (first | (with_reducible refine R_seq ?_) | (with_reducible refine R_block_normal ?_)))
          (repeat (with_reducible refine G_seq ?_))
          refine G_cond_dec rfl (fun ht75 => ?_) (fun ht75 => ?_)
          · -- yes
            (repeat (with_reducible refine G_seq ?_))
            refine G_skip ?_
            (repeat (first | (with_reducible refine R_seq ?_) | (with_reducible refine R_block_normal ?_)))
            (repeat (with_reducible refine G_seq ?_))
            refine G_block ?_
            obtain ⟨z, hz⟩ : ∃ y, nums[q]? = some y := ⟨nums[q], List.getElem?_eq_getElem (by omega)⟩
            (repeat (with_reducible refine G_seq ?_))
            refine G_region ?_
            refine GL_y rfl rfl (Y_move rfl) ?_
            refine GL_y rfl rfl (Y_move rfl) ?_
            refine GL_y rfl rfl (Y_move rfl) ?_
            refine GL_y rfl rfl (Y_nAt hn rfl rfl hz rfl) ?_
            refine GL_y rfl rfl (Y_nGet hn (by simp) rfl hz) ?_
            refine GL_call rfl rfl rfl rfl Try.call10 .nil (fun w hw => find_gone (hO2.sl hw.tail) (by omega) rfl hm (by rw [List.mem_take_iff_getElem]; exact ⟨q, by have := (List.getElem?_eq_some_iff.1 hz).1; omega, (List.getElem?_eq_some_iff.1 hz).2⟩)) ?_
            rintro _ _ ⟨rfl, rfl⟩
            refine GL_y rfl rfl (Y_move rfl) ?_
            refine GL_y rfl rfl (Y_extract rfl rfl) ?_
            refine GL_y rfl rfl (Y_extract rfl rfl) ?_
            refine GL_w rfl rfl (W_alloc zr28 fun b15 => ?_)
            refine GL_s rfl (S_all rfl rfl ag28 (by rfl) (all_B _) (by first | exact .head | exact (.tail .head) | exact (.tail (.tail .head)) | exact (.tail (.tail (.tail .head))) | exact (.tail (.tail (.tail (.tail .head)))) | exact (.tail (.tail (.tail (.tail (.tail .head))))) | exact (.tail (.tail (.tail (.tail (.tail (.tail .head)))))) | exact (.tail (.tail (.tail (.tail (.tail (.tail (.tail .head))))))) | exact (.tail (.tail (.tail (.tail (.tail (.tail (.tail (.tail .head)))))))) | exact (.tail (.tail (.tail (.tail (.tail (.tail (.tail (.tail (.tail .head))))))))) | exact (.tail (.tail (.tail (.tail (.tail (.tail (.tail (.tail (.tail (.tail .head)))))))))) | exact (.tail (.tail (.tail (.tail (.tail (.tail (.tail (.tail (.tail (.tail (.tail .head))))))))))) | exact (.tail (.tail (.tail (.tail (.tail (.tail (.tail (.tail (.tail (.tail (.tail (.tail .head)))))))))))) | exact (.tail (.tail (.tail (.tail (.tail (.tail (.tail (.tail (.tail (.tail (.tail (.tail (.tail .head)))))))))))))) (by rfl)) ?_
            refine GL_y rfl rfl (Y_assign rfl) ?_
            refine GL_nil ?_
            (repeat (first | (with_reducible refine R_seq ?_) | (with_reducible refine R_block_normal ?_)))
            (repeat (with_reducible refine G_seq ?_))
            refine G_region ?_
            refine GL_y rfl rfl (Y_move rfl) ?_
            refine GL_y rfl rfl (Y_iop (v := .bool false) rfl rfl rfl) ?_
            refine GL_nil ?_
            (repeat (first | (with_reducible refine R_seq ?_) | (with_reducible refine R_block_normal ?_)))
            (repeat (with_reducible refine G_seq ?_))
            refine G_cond_f rfl (by first | rfl | decide | (simp; done) | (simp; omega)) ?_
            (repeat (with_reducible refine G_seq ?_))
            refine G_skip ?_
            (repeat (first | (with_reducible refine R_seq ?_) | (with_reducible refine R_block_normal ?_)))
            (repeat (with_reducible refine G_seq ?_))
            refine G_region ?_
            refine GL_y rfl rfl (Y_move rfl) ?_
            refine GL_y rfl rfl (Y_addN (b := 1) rfl rfl (by first | omega | decide)) ?_
            refine GL_y rfl rfl (Y_assign rfl) ?_
            refine GL_nil ?_
            (repeat (first | (with_reducible refine R_seq ?_) | (with_reducible refine R_block_normal ?_)))
            (repeat (with_reducible refine R_block_normal ?_))
            refine R_fam (q + 1) ?_ (⟨by first | rfl | decide, by first | rfl | decide, by first | rfl | decide, by first | rfl | decide, by first | rfl | decide, by first | rfl | decide, by first | rfl | decide, by first | rfl | decide, by first | rfl | decide, by first | rfl | decide, trivial⟩) (by repeat (first | exact .nil | exact Pick.rfl' _ | exact Pick.skip (Pick.rfl' _) | exact Pick.skip (Pick.skip (Pick.rfl' _)) | (apply Pick.cons; focus (first | exact .head | exact (.tail .head) | exact (.tail (.tail .head)) | exact (.tail (.tail (.tail .head))) | exact (.tail (.tail (.tail (.tail .head)))) | exact (.tail (.tail (.tail (.tail (.tail .head))))) | exact (.tail (.tail (.tail (.tail (.tail (.tail .head)))))) | exact (.tail (.tail (.tail (.tail (.tail (.tail (.tail .head))))))) | exact (.tail (.tail (.tail (.tail (.tail (.tail (.tail (.tail .head)))))))) | exact (.tail (.tail (.tail (.tail (.tail (.tail (.tail (.tail (.tail .head))))))))) | exact (.tail (.tail (.tail (.tail (.tail (.tail (.tail (.tail (.tail (.tail .head)))))))))) | exact (.tail (.tail (.tail (.tail (.tail (.tail (.tail (.tail (.tail (.tail (.tail .head))))))))))) | exact (.tail (.tail (.tail (.tail (.tail (.tail (.tail (.tail (.tail (.tail (.tail (.tail .head)))))))))))) | exact (.tail (.tail (.tail (.tail (.tail (.tail (.tail (.tail (.tail (.tail (.tail (.tail (.tail .head)))))))))))))))))
            exact ⟨by omega, by omega⟩
          · -- no
            (repeat (with_reducible refine G_seq ?_))
            refine G_exit ?_
            (repeat (first | (with_reducible refine R_then_exit ?_) | (with_reducible refine R_block_exit ?_) | (with_reducible refine R_block_other (by decide) ?_)))
            (repeat (first | (with_reducible refine R_seq ?_) | (with_reducible refine R_block_normal ?_)))
            (repeat (with_reducible refine G_seq ?_))
            refine G_region ?_
            refine GL_y rfl rfl (Y_move rfl) ?_
            refine GL_y rfl rfl (Y_addN (b := 1) rfl rfl (by first | omega | decide)) ?_
            refine GL_y rfl rfl (Y_assign rfl) ?_
            refine GL_nil ?_
            (repeat (first | (with_reducible refine R_seq ?_) | (with_reducible refine R_block_normal ?_)))
            (repeat (with_reducible refine R_block_normal ?_))
            refine R_fam ⟨i.i + 1, j.ao, j.c, j.N⟩ ?_ (⟨by first | rfl | decide, by first | rfl | decide, by first | rfl | decide, by first | rfl | decide, by first | rfl | decide, by first | rfl | decide, by first | rfl | decide, by first | rfl | decide, by first | rfl | decide, trivial⟩) (by repeat (first | exact .nil | exact Pick.rfl' _ | exact Pick.skip (Pick.rfl' _) | exact Pick.skip (Pick.skip (Pick.rfl' _)) | (apply Pick.cons; focus (first | exact .head | exact (.tail .head) | exact (.tail (.tail .head)) | exact (.tail (.tail (.tail .head))) | exact (.tail (.tail (.tail (.tail .head)))) | exact (.tail (.tail (.tail (.tail (.tail .head))))) | exact (.tail (.tail (.tail (.tail (.tail (.tail .head)))))) | exact (.tail (.tail (.tail (.tail (.tail (.tail (.tail .head))))))) | exact (.tail (.tail (.tail (.tail (.tail (.tail (.tail (.tail .head)))))))) | exact (.tail (.tail (.tail (.tail (.tail (.tail (.tail (.tail (.tail .head))))))))) | exact (.tail (.tail (.tail (.tail (.tail (.tail (.tail (.tail (.tail (.tail .head)))))))))) | exact (.tail (.tail (.tail (.tail (.tail (.tail (.tail (.tail (.tail (.tail (.tail .head))))))))))) | exact (.tail (.tail (.tail (.tail (.tail (.tail (.tail (.tail (.tail (.tail (.tail (.tail .head)))))))))))) | exact (.tail (.tail (.tail (.tail (.tail (.tail (.tail (.tail (.tail (.tail (.tail (.tail (.tail .head)))))))))))))))))
            exact ⟨⟨by simp only; omega, hO2⟩, by simp only; omega⟩
        · -- g65 False
          refine GL_y rfl rfl (Y_move rfl) ?_
          refine GL_y rfl rfl (Y_move rfl) ?_
          refine GL_y rfl rfl (Y_nAt hn rfl rfl hy rfl) ?_
          refine GL_y rfl rfl (Y_nGet hn (by simp) rfl hy) ?_
          refine GL_y rfl rfl (Y_move rfl) ?_
          refine GL_y rfl rfl (Y_iop rfl rfl rfl) ?_
          refine GL_y rfl rfl (Y_pick rfl rfl rfl rfl) ?_
          refine GL_set 72 (.bool (decide (x ∈ nums.take (i.i + 1)))) rfl ?_ ?_
          · have ht := take_mem (x := x) hy
            congr 1
            exact decide_eq_decide.2 ⟨fun h => ht.2 (.inr h), fun h => (ht.1 h).resolve_left (of_decide_eq_false g65)⟩
          refine GL_y rfl rfl (Y_assign rfl) ?_
          refine GL_nil ?_
          (repeat (first | (with_reducible refine R_seq ?_) | (with_reducible refine R_block_normal ?_)))
          (repeat (with_reducible refine G_seq ?_))
          refine G_region ?_
          refine GL_y rfl rfl (Y_assign rfl) ?_
          refine GL_nil ?_
          (repeat (first | (with_reducible refine R_seq ?_) | (with_reducible refine R_block_normal ?_)))
          (repeat (with_reducible refine G_seq ?_))
          refine G_block ?_
          (repeat (with_reducible refine G_seq ?_))
          refine G_loop (ι := Nat) (fun q => i.i + 1 - q) (fun q => q ≤ i.i + 1) (fun q => [(0, .slice ao ring.length c), (1, .slice nao nums.length nc), (2, .int .i64 x), (6, .bool false), (7, .pointer (some ⟨b7, 0, none⟩)), (8, .int .i64 ((findD ring x).2 : Nat)), (9, .slice j.ao ring.length j.c), (10, .bool (decide (x ∈ nums.take (i.i + 1)))), (11, .int .i64 (i.i : Int)), (14, .int .i64 (q : Int))]) (fun q => ⟨b7, 28, (List.replicate 32 (bv 0)).length, B (findD ring x).1, (0, 0)⟩ :: j.N) 0 ?_ (⟨by first | rfl | decide, by first | rfl | decide, by first | rfl | decide, by first | rfl | decide, by first | rfl | decide, by first | rfl | decide, by first | rfl | decide, by first | rfl | decide, by first | rfl | decide, by first | rfl | decide, trivial⟩) (by repeat (first | exact .nil | exact Pick.rfl' _ | exact Pick.skip (Pick.rfl' _) | exact Pick.skip (Pick.skip (Pick.rfl' _)) | (apply Pick.cons; focus (first | exact .head | exact (.tail .head) | exact (.tail (.tail .head)) | exact (.tail (.tail (.tail .head))) | exact (.tail (.tail (.tail (.tail .head)))) | exact (.tail (.tail (.tail (.tail (.tail .head))))) | exact (.tail (.tail (.tail (.tail (.tail (.tail .head)))))) | exact (.tail (.tail (.tail (.tail (.tail (.tail (.tail .head))))))) | exact (.tail (.tail (.tail (.tail (.tail (.tail (.tail (.tail .head)))))))) | exact (.tail (.tail (.tail (.tail (.tail (.tail (.tail (.tail (.tail .head))))))))) | exact (.tail (.tail (.tail (.tail (.tail (.tail (.tail (.tail (.tail (.tail .head)))))))))) | exact (.tail (.tail (.tail (.tail (.tail (.tail (.tail (.tail (.tail (.tail (.tail .head))))))))))) | exact (.tail (.tail (.tail (.tail (.tail (.tail (.tail (.tail (.tail (.tail (.tail (.tail .head)))))))))))) | exact (.tail (.tail (.tail (.tail (.tail (.tail (.tail (.tail (.tail (.tail (.tail (.tail (.tail .head))))))))))))))))) ?_
          · omega
          intro q hq
          (repeat (with_reducible refine G_seq ?_))
          refine G_region ?_
          refine GL_y rfl rfl (Y_move rfl) ?_
          refine GL_y rfl rfl (Y_move rfl) ?_
          refine GL_y rfl rfl (Y_leqN rfl rfl) ?_
          refine GL_nil ?_
          (repeat (first | (with_reducible refine R_seq ?_) | (with_reducible refine R_block_normal ?_)))
          (repeat (with_reducible refine G_seq ?_))
          refine G_cond_dec rfl (fun ht75 => ?_) (fun ht75 => ?_)
          · -- yes
            (repeat (with_reducible refine G_seq ?_))
            refine G_skip ?_
            (repeat (first | (with_reducible refine R_seq ?_) | (with_reducible refine R_block_normal ?_)))
            (repeat (with_reducible refine G_seq ?_))
            refine G_block ?_
            obtain ⟨z, hz⟩ : ∃ y, nums[q]? = some y := ⟨nums[q], List.getElem?_eq_getElem (by omega)⟩
            (repeat (with_reducible refine G_seq ?_))
            refine G_region ?_
            refine GL_y rfl rfl (Y_move rfl) ?_
            refine GL_y rfl rfl (Y_move rfl) ?_
            refine GL_y rfl rfl (Y_move rfl) ?_
            refine GL_y rfl rfl (Y_nAt hn rfl rfl hz rfl) ?_
            refine GL_y rfl rfl (Y_nGet hn (by simp) rfl hz) ?_
            refine GL_call rfl rfl rfl rfl Try.call10 .nil (fun w hw => find_gone (hO2.sl hw.tail) (by omega) rfl hm (by rw [List.mem_take_iff_getElem]; exact ⟨q, by have := (List.getElem?_eq_some_iff.1 hz).1; omega, (List.getElem?_eq_some_iff.1 hz).2⟩)) ?_
            rintro _ _ ⟨rfl, rfl⟩
            refine GL_y rfl rfl (Y_move rfl) ?_
            refine GL_y rfl rfl (Y_extract rfl rfl) ?_
            refine GL_y rfl rfl (Y_extract rfl rfl) ?_
            refine GL_w rfl rfl (W_alloc zr28 fun b15 => ?_)
            refine GL_s rfl (S_all rfl rfl ag28 (by rfl) (all_B _) (by first | exact .head | exact (.tail .head) | exact (.tail (.tail .head)) | exact (.tail (.tail (.tail .head))) | exact (.tail (.tail (.tail (.tail .head)))) | exact (.tail (.tail (.tail (.tail (.tail .head))))) | exact (.tail (.tail (.tail (.tail (.tail (.tail .head)))))) | exact (.tail (.tail (.tail (.tail (.tail (.tail (.tail .head))))))) | exact (.tail (.tail (.tail (.tail (.tail (.tail (.tail (.tail .head)))))))) | exact (.tail (.tail (.tail (.tail (.tail (.tail (.tail (.tail (.tail .head))))))))) | exact (.tail (.tail (.tail (.tail (.tail (.tail (.tail (.tail (.tail (.tail .head)))))))))) | exact (.tail (.tail (.tail (.tail (.tail (.tail (.tail (.tail (.tail (.tail (.tail .head))))))))))) | exact (.tail (.tail (.tail (.tail (.tail (.tail (.tail (.tail (.tail (.tail (.tail (.tail .head)))))))))))) | exact (.tail (.tail (.tail (.tail (.tail (.tail (.tail (.tail (.tail (.tail (.tail (.tail (.tail .head)))))))))))))) (by rfl)) ?_
            refine GL_y rfl rfl (Y_assign rfl) ?_
            refine GL_nil ?_
            (repeat (first | (with_reducible refine R_seq ?_) | (with_reducible refine R_block_normal ?_)))
            (repeat (with_reducible refine G_seq ?_))
            refine G_region ?_
            refine GL_y rfl rfl (Y_move rfl) ?_
            refine GL_y rfl rfl (Y_iop (v := .bool false) rfl rfl rfl) ?_
            refine GL_nil ?_
            (repeat (first | (with_reducible refine R_seq ?_) | (with_reducible refine R_block_normal ?_)))
            (repeat (with_reducible refine G_seq ?_))
            refine G_cond_f rfl (by first | rfl | decide | (simp; done) | (simp; omega)) ?_
            (repeat (with_reducible refine G_seq ?_))
            refine G_skip ?_
            (repeat (first | (with_reducible refine R_seq ?_) | (with_reducible refine R_block_normal ?_)))
            (repeat (with_reducible refine G_seq ?_))
            refine G_region ?_
            refine GL_y rfl rfl (Y_move rfl) ?_
            refine GL_y rfl rfl (Y_addN (b := 1) rfl rfl (by first | omega | decide)) ?_
            refine GL_y rfl rfl (Y_assign rfl) ?_
            refine GL_nil ?_
            (repeat (first | (with_reducible refine R_seq ?_) | (with_reducible refine R_block_normal ?_)))
            (repeat (with_reducible refine R_block_normal ?_))
            refine R_fam (q + 1) ?_ (⟨by first | rfl | decide, by first | rfl | decide, by first | rfl | decide, by first | rfl | decide, by first | rfl | decide, by first | rfl | decide, by first | rfl | decide, by first | rfl | decide, by first | rfl | decide, by first | rfl | decide, trivial⟩) (by repeat (first | exact .nil | exact Pick.rfl' _ | exact Pick.skip (Pick.rfl' _) | exact Pick.skip (Pick.skip (Pick.rfl' _)) | (apply Pick.cons; focus (first | exact .head | exact (.tail .head) | exact (.tail (.tail .head)) | exact (.tail (.tail (.tail .head))) | exact (.tail (.tail (.tail (.tail .head)))) | exact (.tail (.tail (.tail (.tail (.tail .head))))) | exact (.tail (.tail (.tail (.tail (.tail (.tail .head)))))) | exact (.tail (.tail (.tail (.tail (.tail (.tail (.tail .head))))))) | exact (.tail (.tail (.tail (.tail (.tail (.tail (.tail (.tail .head)))))))) | exact (.tail (.tail (.tail (.tail (.tail (.tail (.tail (.tail (.tail .head))))))))) | exact (.tail (.tail (.tail (.tail (.tail (.tail (.tail (.tail (.tail (.tail .head)))))))))) | exact (.tail (.tail (.tail (.tail (.tail (.tail (.tail (.tail (.tail (.tail (.tail .head))))))))))) | exact (.tail (.tail (.tail (.tail (.tail (.tail (.tail (.tail (.tail (.tail (.tail (.tail .head)))))))))))) | exact (.tail (.tail (.tail (.tail (.tail (.tail (.tail (.tail (.tail (.tail (.tail (.tail (.tail .head)))))))))))))))))
            exact ⟨by omega, by omega⟩
          · -- no
            (repeat (with_reducible refine G_seq ?_))
            refine G_exit ?_
            (repeat (first | (with_reducible refine R_then_exit ?_) | (with_reducible refine R_block_exit ?_) | (with_reducible refine R_block_other (by decide) ?_)))
            (repeat (first | (with_reducible refine R_seq ?_) | (with_reducible refine R_block_normal ?_)))
            (repeat (with_reducible refine G_seq ?_))
            refine G_region ?_
            refine GL_y rfl rfl (Y_move rfl) ?_
            refine GL_y rfl rfl (Y_addN (b := 1) rfl rfl (by first | omega | decide)) ?_
            refine GL_y rfl rfl (Y_assign rfl) ?_
            refine GL_nil ?_
            (repeat (first | (with_reducible refine R_seq ?_) | (with_reducible refine R_block_normal ?_)))
            (repeat (with_reducible refine R_block_normal ?_))
            refine R_fam ⟨i.i + 1, j.ao, j.c, j.N⟩ ?_ (⟨by first | rfl | decide, by first | rfl | decide, by first | rfl | decide, by first | rfl | decide, by first | rfl | decide, by first | rfl | decide, by first | rfl | decide, by first | rfl | decide, by first | rfl | decide, trivial⟩) (by repeat (first | exact .nil | exact Pick.rfl' _ | exact Pick.skip (Pick.rfl' _) | exact Pick.skip (Pick.skip (Pick.rfl' _)) | (apply Pick.cons; focus (first | exact .head | exact (.tail .head) | exact (.tail (.tail .head)) | exact (.tail (.tail (.tail .head))) | exact (.tail (.tail (.tail (.tail .head)))) | exact (.tail (.tail (.tail (.tail (.tail .head))))) | exact (.tail (.tail (.tail (.tail (.tail (.tail .head)))))) | exact (.tail (.tail (.tail (.tail (.tail (.tail (.tail .head))))))) | exact (.tail (.tail (.tail (.tail (.tail (.tail (.tail (.tail .head)))))))) | exact (.tail (.tail (.tail (.tail (.tail (.tail (.tail (.tail (.tail .head))))))))) | exact (.tail (.tail (.tail (.tail (.tail (.tail (.tail (.tail (.tail (.tail .head)))))))))) | exact (.tail (.tail (.tail (.tail (.tail (.tail (.tail (.tail (.tail (.tail (.tail .head))))))))))) | exact (.tail (.tail (.tail (.tail (.tail (.tail (.tail (.tail (.tail (.tail (.tail (.tail .head)))))))))))) | exact (.tail (.tail (.tail (.tail (.tail (.tail (.tail (.tail (.tail (.tail (.tail (.tail (.tail .head)))))))))))))))))
            exact ⟨⟨by simp only; omega, hO2⟩, by simp only; omega⟩
    · -- no
      (repeat (with_reducible refine G_seq ?_))
      refine G_exit ?_
      (repeat (first | (with_reducible refine R_then_exit ?_) | (with_reducible refine R_block_exit ?_) | (with_reducible refine R_block_other (by decide) ?_)))
      (repeat (first | (with_reducible refine R_seq ?_) | (with_reducible refine R_block_normal ?_)))
      have htk : nums.take i.i = nums := List.take_of_length_le (by omega)
      (repeat (with_reducible refine G_seq ?_))
      refine G_region ?_
      refine GL_y rfl rfl (Y_move rfl) ?_
      refine GL_y rfl rfl (Y_move rfl) ?_
      refine GL_call rfl rfl rfl rfl Try.call10 .nil (fun w hw => find_gone (hO.sl hw.tail) (by omega) rfl hm (by rw [htk]; exact hx)) ?_
      rintro _ _ ⟨rfl, rfl⟩
      refine GL_y rfl rfl (Y_move rfl) ?_
      refine GL_y rfl rfl (Y_extract rfl rfl) ?_
      refine GL_y rfl rfl (Y_extract rfl rfl) ?_
      refine GL_w rfl rfl (W_alloc zr28 fun b17 => ?_)
      refine GL_s rfl (S_all rfl rfl ag28 (by rfl) (all_B _) (by first | exact .head | exact (.tail .head) | exact (.tail (.tail .head)) | exact (.tail (.tail (.tail .head))) | exact (.tail (.tail (.tail (.tail .head)))) | exact (.tail (.tail (.tail (.tail (.tail .head))))) | exact (.tail (.tail (.tail (.tail (.tail (.tail .head)))))) | exact (.tail (.tail (.tail (.tail (.tail (.tail (.tail .head))))))) | exact (.tail (.tail (.tail (.tail (.tail (.tail (.tail (.tail .head)))))))) | exact (.tail (.tail (.tail (.tail (.tail (.tail (.tail (.tail (.tail .head))))))))) | exact (.tail (.tail (.tail (.tail (.tail (.tail (.tail (.tail (.tail (.tail .head)))))))))) | exact (.tail (.tail (.tail (.tail (.tail (.tail (.tail (.tail (.tail (.tail (.tail .head))))))))))) | exact (.tail (.tail (.tail (.tail (.tail (.tail (.tail (.tail (.tail (.tail (.tail (.tail .head)))))))))))) | exact (.tail (.tail (.tail (.tail (.tail (.tail (.tail (.tail (.tail (.tail (.tail (.tail (.tail .head)))))))))))))) (by rfl)) ?_
      refine GL_y rfl rfl (Y_assign rfl) ?_
      refine GL_nil ?_
      (repeat (first | (with_reducible refine R_seq ?_) | (with_reducible refine R_block_normal ?_)))
      (repeat (with_reducible refine G_seq ?_))
      refine G_region ?_
      refine GL_call rfl rfl rfl rfl Try.call14 .nil (fun w hw => awake_is) ?_
      rintro _ _ ⟨rfl, rfl⟩
      refine GL_y rfl rfl (Y_move rfl) ?_
      refine GL_set 10 (.bool true) rfl (by rw [htk]; simp [hx]) ?_
      refine GL_y rfl rfl (Y_move rfl) ?_
      refine GL_y rfl rfl (Y_move rfl) ?_
      refine GL_y rfl rfl (Y_move rfl) ?_
      refine GL_y rfl rfl (Y_iop (v := .bool true) rfl rfl rfl) ?_
      refine GL_y rfl rfl (Y_pick rfl rfl rfl rfl) ?_
      refine GL_y rfl rfl (Y_move rfl) ?_
      refine GL_skip rfl rfl ?_
      refine GL_skip rfl rfl ?_
      refine GL_skip rfl rfl ?_
      refine GL_skip rfl rfl ?_
      refine GL_skip rfl rfl ?_
      refine GL_skip rfl rfl ?_
      refine GL_skip rfl rfl ?_
      refine GL_skip rfl rfl ?_
      refine GL_skip rfl rfl ?_
      refine GL_skip rfl rfl ?_
      refine GL_skip rfl rfl ?_
      refine GL_skip rfl rfl ?_
      refine GL_y rfl rfl (Y_pick rfl rfl rfl rfl) ?_
      refine GL_y rfl rfl (Y_pick rfl rfl rfl rfl) ?_
      refine GL_y rfl rfl (Y_assign rfl) ?_
      refine GL_nil ?_
      (repeat (first | (with_reducible refine R_seq ?_) | (with_reducible refine R_block_normal ?_)))
      (repeat (with_reducible refine G_seq ?_))
      refine G_ret ?_
      (repeat (first | (with_reducible refine R_then_ret ?_) | (with_reducible refine R_block_ret ?_)))
      refine R_ret (.tmp rfl .nil) [] .nil ⟨rfl, rfl⟩
set_option maxHeartbeats 4000000 in
theorem rev_miss {ao nao : Option Addr} {c nc : Nat} {ring : List KeyD} {nums : List Int} {x : Int} {w : World} (hs : SlAt w ao (ringL ring)) (hn : SlAt w nao (nums.map (Value.int .i64))) (hl : ring.length ≤ 100) (hnl : nums.length ≤ 30) (hm : mayB ring = true) (hx : x ∉ nums) : FnAt Try.prog 4 [.slice ao ring.length c, .slice nao nums.length nc, .int .i64 x] [] w (Ret fun v N => v = .bool true ∧ N = []) := by
  refine FnAt.intro Try.func4 rfl Try.ntmps4 rfl _ rfl ?_
  (repeat (with_reducible refine G_seq ?_))
  refine G_region ?_
  refine GL_y rfl rfl (Y_assign rfl) ?_
  refine GL_nil ?_
  (repeat (first | (with_reducible refine R_seq ?_) | (with_reducible refine R_block_normal ?_)))
  (repeat (with_reducible refine G_seq ?_))
  refine G_region ?_
  refine GL_y rfl rfl (Y_move rfl) ?_
  refine GL_y rfl rfl (Y_len sl22 rfl) ?_
  refine GL_y rfl rfl (Y_gtrN (b := 100) rfl rfl) ?_
  refine GL_y rfl rfl (Y_move rfl) ?_
  refine GL_bool 22 rfl (fun g22 => ?_) (fun g22 => ?_)
  · -- g22 True
    exact absurd g22 (by simp; omega)
  · -- g22 False
    refine GL_y rfl rfl (Y_move rfl) ?_
    refine GL_y rfl rfl (Y_len sl41 rfl) ?_
    refine GL_y rfl rfl (Y_gtrN (b := 30) rfl rfl) ?_
    refine GL_y rfl rfl (Y_pick rfl rfl rfl rfl) ?_
    refine GL_nil ?_
    (repeat (first | (with_reducible refine R_seq ?_) | (with_reducible refine R_block_normal ?_)))
    (repeat (with_reducible refine G_seq ?_))
    refine G_cond_f rfl (by simp; omega) ?_
    (repeat (with_reducible refine G_seq ?_))
    refine G_skip ?_
    (repeat (first | (with_reducible refine R_seq ?_) | (with_reducible refine R_block_normal ?_)))
    (repeat (with_reducible refine G_seq ?_))
    refine G_region ?_
    refine GL_y rfl rfl (Y_move rfl) ?_
    refine GL_call rfl rfl rfl rfl Try.call13 .nil (fun w hw => refMay_is (hs.keep hw (by simp)) (by omega) hm) ?_
    rintro _ _ ⟨rfl, rfl⟩
    refine GL_y rfl rfl (Y_not rfl) ?_
    refine GL_nil ?_
    (repeat (first | (with_reducible refine R_seq ?_) | (with_reducible refine R_block_normal ?_)))
    (repeat (with_reducible refine G_seq ?_))
    refine G_cond_f rfl (by first | rfl | decide | (simp; done) | (simp; omega)) ?_
    (repeat (with_reducible refine G_seq ?_))
    refine G_skip ?_
    (repeat (first | (with_reducible refine R_seq ?_) | (with_reducible refine R_block_normal ?_)))
    (repeat (with_reducible refine G_seq ?_))
    refine G_region ?_
    refine GL_y rfl rfl (Y_move rfl) ?_
    refine GL_y rfl rfl (Y_move rfl) ?_
    refine GL_call rfl rfl rfl rfl Try.call10 .nil (fun w hw => find_is (hs.keep hw (by simp)) (by omega)) ?_
    rintro _ _ ⟨rfl, rfl⟩
    refine GL_y rfl rfl (Y_move rfl) ?_
    refine GL_y rfl rfl (Y_extract rfl rfl) ?_
    refine GL_y rfl rfl (Y_extract rfl rfl) ?_
    refine GL_w rfl rfl (W_alloc zr28 fun b7 => ?_)
    refine GL_s rfl (S_all rfl rfl ag28 (by rw [len_B, find_len]) (all_B _) (by first | exact .head | exact (.tail .head) | exact (.tail (.tail .head)) | exact (.tail (.tail (.tail .head))) | exact (.tail (.tail (.tail (.tail .head)))) | exact (.tail (.tail (.tail (.tail (.tail .head))))) | exact (.tail (.tail (.tail (.tail (.tail (.tail .head)))))) | exact (.tail (.tail (.tail (.tail (.tail (.tail (.tail .head))))))) | exact (.tail (.tail (.tail (.tail (.tail (.tail (.tail (.tail .head)))))))) | exact (.tail (.tail (.tail (.tail (.tail (.tail (.tail (.tail (.tail .head))))))))) | exact (.tail (.tail (.tail (.tail (.tail (.tail (.tail (.tail (.tail (.tail .head)))))))))) | exact (.tail (.tail (.tail (.tail (.tail (.tail (.tail (.tail (.tail (.tail (.tail .head))))))))))) | exact (.tail (.tail (.tail (.tail (.tail (.tail (.tail (.tail (.tail (.tail (.tail (.tail .head)))))))))))) | exact (.tail (.tail (.tail (.tail (.tail (.tail (.tail (.tail (.tail (.tail (.tail (.tail (.tail .head)))))))))))))) (by rfl)) ?_
    refine GL_y rfl rfl (Y_assign rfl) ?_
    refine GL_nil ?_
    (repeat (first | (with_reducible refine R_seq ?_) | (with_reducible refine R_block_normal ?_)))
    (repeat (with_reducible refine G_seq ?_))
    refine G_region ?_
    refine GL_y rfl rfl (Y_move rfl) ?_
    refine GL_call rfl rfl rfl rfl Try.call8 .nil (fun w hw => own_is (hs.keep hw (by simp)) (by omega)) ?_
    rintro _ N0 ⟨ao1, c1, rfl, hO0⟩
    refine GL_perm (⟨b7, 28, (List.replicate 32 (bv 0)).length, B (findD ring x).1, (0, 0)⟩ :: N0) List.perm_append_comm ?_
    refine GL_y rfl rfl (Y_assign rfl) ?_
    refine GL_nil ?_
    (repeat (first | (with_reducible refine R_seq ?_) | (with_reducible refine R_block_normal ?_)))
    (repeat (with_reducible refine G_seq ?_))
    refine G_region ?_
    refine GL_y rfl rfl (Y_assign rfl) ?_
    refine GL_nil ?_
    (repeat (first | (with_reducible refine R_seq ?_) | (with_reducible refine R_block_normal ?_)))
    (repeat (with_reducible refine G_seq ?_))
    refine G_region ?_
    refine GL_y rfl rfl (Y_assign rfl) ?_
    refine GL_nil ?_
    (repeat (first | (with_reducible refine R_seq ?_) | (with_reducible refine R_block_normal ?_)))
    (repeat (with_reducible refine G_seq ?_))
    refine G_block ?_
    (repeat (with_reducible refine G_seq ?_))
    refine G_loop (ι := RI) (fun i => nums.length - i.i) (fun i => i.i ≤ nums.length ∧ Own i.N i.ao i.c (revL ring (nums.take i.i))) (fun i => [(0, .slice ao ring.length c), (1, .slice nao nums.length nc), (2, .int .i64 x), (6, .bool false), (7, .pointer (some ⟨b7, 0, none⟩)), (8, .int .i64 ((findD ring x).2 : Nat)), (9, .slice i.ao ring.length i.c), (10, .bool (decide (x ∈ nums.take i.i))), (11, .int .i64 (i.i : Int))]) (fun i => ⟨b7, 28, (List.replicate 32 (bv 0)).length, B (findD ring x).1, (0, 0)⟩ :: i.N) ⟨0, ao1, c1, N0⟩ ?_ (⟨by first | rfl | decide, by first | rfl | decide, by first | rfl | decide, by first | rfl | decide, by first | rfl | decide, by first | rfl | decide, by first | rfl | decide, by first | rfl | decide, by first | rfl | decide, trivial⟩) (by repeat (first | exact .nil | exact Pick.rfl' _ | exact Pick.skip (Pick.rfl' _) | exact Pick.skip (Pick.skip (Pick.rfl' _)) | (apply Pick.cons; focus (first | exact .head | exact (.tail .head) | exact (.tail (.tail .head)) | exact (.tail (.tail (.tail .head))) | exact (.tail (.tail (.tail (.tail .head)))) | exact (.tail (.tail (.tail (.tail (.tail .head))))) | exact (.tail (.tail (.tail (.tail (.tail (.tail .head)))))) | exact (.tail (.tail (.tail (.tail (.tail (.tail (.tail .head))))))) | exact (.tail (.tail (.tail (.tail (.tail (.tail (.tail (.tail .head)))))))) | exact (.tail (.tail (.tail (.tail (.tail (.tail (.tail (.tail (.tail .head))))))))) | exact (.tail (.tail (.tail (.tail (.tail (.tail (.tail (.tail (.tail (.tail .head)))))))))) | exact (.tail (.tail (.tail (.tail (.tail (.tail (.tail (.tail (.tail (.tail (.tail .head))))))))))) | exact (.tail (.tail (.tail (.tail (.tail (.tail (.tail (.tail (.tail (.tail (.tail (.tail .head)))))))))))) | exact (.tail (.tail (.tail (.tail (.tail (.tail (.tail (.tail (.tail (.tail (.tail (.tail (.tail .head))))))))))))))))) ?_
    · exact ⟨by simp, by simpa [revL_nil] using hO0⟩
    intro i ⟨hi, hO⟩
    (repeat (with_reducible refine G_seq ?_))
    refine G_region ?_
    refine GL_y rfl rfl (Y_move rfl) ?_
    refine GL_y rfl rfl (Y_move rfl) ?_
    refine GL_y rfl rfl (Y_len sl41 rfl) ?_
    refine GL_y rfl rfl (Y_lssN rfl rfl) ?_
    refine GL_nil ?_
    (repeat (first | (with_reducible refine R_seq ?_) | (with_reducible refine R_block_normal ?_)))
    (repeat (with_reducible refine G_seq ?_))
    refine G_cond_dec rfl (fun ht42 => ?_) (fun ht42 => ?_)
    · -- yes
      (repeat (with_reducible refine G_seq ?_))
      refine G_skip ?_
      (repeat (first | (with_reducible refine R_seq ?_) | (with_reducible refine R_block_normal ?_)))
      (repeat (with_reducible refine G_seq ?_))
      refine G_block ?_
      obtain ⟨y, hy⟩ : ∃ y, nums[i.i]? = some y := ⟨nums[i.i], List.getElem?_eq_getElem ht42⟩
      have hts : nums.take (i.i + 1) = nums.take i.i ++ [y] := by rw [List.take_add_one, hy]; rfl
      (repeat (with_reducible refine G_seq ?_))
      refine G_region ?_
      refine GL_y rfl rfl (Y_move rfl) ?_
      refine GL_y rfl rfl (Y_move rfl) ?_
      refine GL_y rfl rfl (Y_move rfl) ?_
      refine GL_y rfl rfl (Y_nAt hn rfl rfl hy rfl) ?_
      refine GL_y rfl rfl (Y_nGet hn (by simp) rfl hy) ?_
      refine GL_call rfl rfl rfl rfl Try.call11 .nil (fun w hw => revoke_any (hO.sl hw.tail) (by omega) rfl hm) ?_
      rintro _ N1 ⟨e1, ao2, l2, c2, rfl, hcase⟩
      refine GL_y rfl rfl (Y_move rfl) ?_
      refine GL_y rfl rfl (Y_extract rfl rfl) ?_
      refine GL_y rfl rfl (Y_extract rfl rfl) ?_
      refine GL_y rfl rfl (Y_assign rfl) ?_
      refine GL_y rfl rfl (Y_assign rfl) ?_
      refine GL_nil ?_
      (repeat (first | (with_reducible refine R_seq ?_) | (with_reducible refine R_block_normal ?_)))
      (repeat (with_reducible refine G_seq ?_))
      refine G_region ?_
      refine GL_y rfl rfl (Y_move rfl) ?_
      refine GL_y rfl rfl (Y_iop rfl rfl rfl) ?_
      refine GL_nil ?_
      (repeat (first | (with_reducible refine R_seq ?_) | (with_reducible refine R_block_normal ?_)))
      refine G_then_cut (ι := RI) (fun j => j.i = i.i ∧ Own j.N j.ao j.c (revL ring (nums.take (i.i + 1)))) (fun j => [(0, .slice ao ring.length c), (1, .slice nao nums.length nc), (2, .int .i64 x), (6, .bool false), (7, .pointer (some ⟨b7, 0, none⟩)), (8, .int .i64 ((findD ring x).2 : Nat)), (9, .slice j.ao ring.length j.c), (10, .bool (decide (x ∈ nums.take i.i))), (11, .int .i64 (i.i : Int))]) (fun j => ⟨b7, 28, (List.replicate 32 (bv 0)).length, B (findD ring x).1, (0, 0)⟩ :: j.N) ?_ ?_
      · -- up to the cut
        refine G_cond rfl (fun h55 => ?_) (fun h55 => ?_)
        · -- yes
          have h55 := of_decide_eq_true h55
          rcases hcase with ⟨rfl, _⟩ | ⟨_, rfl, b2, rfl, rfl⟩
          · omega
          (repeat (with_reducible refine G_seq ?_))
          refine G_region ?_
          refine GL_y rfl rfl (Y_move rfl) ?_
          refine GL_y rfl rfl (Y_assign rfl) ?_
          refine GL_nil ?_
          (repeat (first | (with_reducible refine R_seq ?_) | (with_reducible refine R_block_normal ?_)))
          (repeat (first | (with_reducible refine R_seq ?_) | (with_reducible refine R_block_normal ?_)))
          refine R_fam ⟨i.i, some ⟨b2, 0, none⟩, c2, [⟨b2, 39, c2 * 34, ringL (revL ring (nums.take i.i ++ [y])), (0, 0)⟩]⟩ ?_ (⟨by first | rfl | decide, by first | rfl | decide, by first | rfl | decide, by first | rfl | decide, by first | rfl | decide, by first | rfl | decide, by first | rfl | decide, by first | rfl | decide, by first | rfl | decide, trivial⟩) (by repeat (first | exact .nil | exact Pick.rfl' _ | exact Pick.skip (Pick.rfl' _) | exact Pick.skip (Pick.skip (Pick.rfl' _)) | (apply Pick.cons; focus (first | exact .head | exact (.tail .head) | exact (.tail (.tail .head)) | exact (.tail (.tail (.tail .head))) | exact (.tail (.tail (.tail (.tail .head)))) | exact (.tail (.tail (.tail (.tail (.tail .head))))) | exact (.tail (.tail (.tail (.tail (.tail (.tail .head)))))) | exact (.tail (.tail (.tail (.tail (.tail (.tail (.tail .head))))))) | exact (.tail (.tail (.tail (.tail (.tail (.tail (.tail (.tail .head)))))))) | exact (.tail (.tail (.tail (.tail (.tail (.tail (.tail (.tail (.tail .head))))))))) | exact (.tail (.tail (.tail (.tail (.tail (.tail (.tail (.tail (.tail (.tail .head)))))))))) | exact (.tail (.tail (.tail (.tail (.tail (.tail (.tail (.tail (.tail (.tail (.tail .head))))))))))) | exact (.tail (.tail (.tail (.tail (.tail (.tail (.tail (.tail (.tail (.tail (.tail (.tail .head)))))))))))) | exact (.tail (.tail (.tail (.tail (.tail (.tail (.tail (.tail (.tail (.tail (.tail (.tail (.tail .head)))))))))))))))))
          exact ⟨rfl, .inr ⟨b2, rfl, by rw [hts]⟩⟩
        · -- no
          have h55 := of_decide_eq_false h55
          rcases hcase with ⟨rfl, rfl, rfl, hR⟩ | ⟨rfl, _⟩
          rotate_left
          · omega
          (repeat (with_reducible refine G_seq ?_))
          refine G_region ?_
          refine GL_y rfl rfl (Y_move rfl) ?_
          refine GL_y rfl rfl (Y_iop (v := .bool false) rfl rfl rfl) ?_
          refine GL_y rfl rfl (Y_move rfl) ?_
          refine GL_y rfl rfl (Y_move rfl) ?_
          refine GL_y rfl rfl (Y_len sl22 rfl) ?_
          refine GL_y rfl rfl (Y_iop (v := .bool false) rfl rfl rfl) ?_
          refine GL_y rfl rfl (Y_pick rfl rfl rfl rfl) ?_
          refine GL_nil ?_
          (repeat (first | (with_reducible refine R_seq ?_) | (with_reducible refine R_block_normal ?_)))
          (repeat (with_reducible refine G_seq ?_))
          refine G_cond_f rfl (by first | rfl | decide | (simp; done) | (simp; omega)) ?_
          (repeat (with_reducible refine G_seq ?_))
          refine G_skip ?_
          (repeat (first | (with_reducible refine R_seq ?_) | (with_reducible refine R_block_normal ?_)))
          (repeat (first | (with_reducible refine R_seq ?_) | (with_reducible refine R_block_normal ?_)))
          refine R_fam ⟨i.i, i.ao, i.c, i.N⟩ ?_ (⟨by first | rfl | decide, by first | rfl | decide, by first | rfl | decide, by first | rfl | decide, by first | rfl | decide, by first | rfl | decide, by first | rfl | decide, by first | rfl | decide, by first | rfl | decide, trivial⟩) (by repeat (first | exact .nil | exact Pick.rfl' _ | exact Pick.skip (Pick.rfl' _) | exact Pick.skip (Pick.skip (Pick.rfl' _)) | (apply Pick.cons; focus (first | exact .head | exact (.tail .head) | exact (.tail (.tail .head)) | exact (.tail (.tail (.tail .head))) | exact (.tail (.tail (.tail (.tail .head)))) | exact (.tail (.tail (.tail (.tail (.tail .head))))) | exact (.tail (.tail (.tail (.tail (.tail (.tail .head)))))) | exact (.tail (.tail (.tail (.tail (.tail (.tail (.tail .head))))))) | exact (.tail (.tail (.tail (.tail (.tail (.tail (.tail (.tail .head)))))))) | exact (.tail (.tail (.tail (.tail (.tail (.tail (.tail (.tail (.tail .head))))))))) | exact (.tail (.tail (.tail (.tail (.tail (.tail (.tail (.tail (.tail (.tail .head)))))))))) | exact (.tail (.tail (.tail (.tail (.tail (.tail (.tail (.tail (.tail (.tail (.tail .head))))))))))) | exact (.tail (.tail (.tail (.tail (.tail (.tail (.tail (.tail (.tail (.tail (.tail (.tail .head)))))))))))) | exact (.tail (.tail (.tail (.tail (.tail (.tail (.tail (.tail (.tail (.tail (.tail (.tail (.tail .head)))))))))))))))))
          refine ⟨rfl, ?_⟩
          simp only
          rw [hts, hR]; exact hO
      · -- behind the cut
        intro j ⟨_, hO2⟩
        (repeat (with_reducible refine G_seq ?_))
        refine G_region ?_
        refine GL_y rfl rfl (Y_move rfl) ?_
        refine GL_y rfl rfl (Y_move rfl) ?_
        refine GL_bool 65 rfl (fun g65 => ?_) (fun g65 => ?_)
        · -- g65 True
          refine GL_skip rfl rfl ?_
          refine GL_skip rfl rfl ?_
          refine GL_skip rfl rfl ?_
          refine GL_skip rfl rfl ?_
          refine GL_skip rfl rfl ?_
          refine GL_skip rfl rfl ?_
          refine GL_y rfl rfl (Y_pick rfl rfl rfl rfl) ?_
          refine GL_set 72 (.bool (decide (x ∈ nums.take (i.i + 1)))) rfl ?_ ?_
          · have ht := take_mem (x := x) hy
            congr 1
            exact (decide_eq_true (ht.2 (.inl (of_decide_eq_true g65)))).symm
          refine GL_y rfl rfl (Y_assign rfl) ?_
          refine GL_nil ?_
          (repeat (first | (with_reducible refine R_seq ?_) | (with_reducible refine R_block_normal ?_)))
          (repeat (with_reducible refine G_seq ?_))
          refine G_region ?_
          refine GL_y rfl rfl (Y_assign rfl) ?_
          refine GL_nil ?_
          (repeat (first | (with_reducible refine R_seq ?_) | (with_reducible refine R_block_normal ?_)))
          (repeat (with_reducible refine G_seq ?_))
          refine G_block ?_
          (repeat (with_reducible refine G_seq ?_))
          refine G_loop (ι := Nat) (fun q => i.i + 1 - q) (fun q => q ≤ i.i + 1) (fun q => [(0, .slice ao ring.length c), (1, .slice nao nums.length nc), (2, .int .i64 x), (6, .bool false), (7, .pointer (some ⟨b7, 0, none⟩)), (8, .int .i64 ((findD ring x).2 : Nat)), (9, .slice j.ao ring.length j.c), (10, .bool (decide (x ∈ nums.take (i.i + 1)))), (11, .int .i64 (i.i : Int)), (14, .int .i64 (q : Int))]) (fun q => ⟨b7, 28, (List.replicate 32 (bv 0)).length, B (findD ring x).1, (0, 0)⟩ :: j.N) 0 ?_ (⟨by first | rfl | decide, by first | rfl | decide, by first | rfl | decide, by first | rfl | decide, by first | rfl | decide, by first | rfl | decide, by first | rfl | decide, by first | rfl | decide, by first | rfl | decide, by first | rfl | decide, trivial⟩) (by repeat (first | exact .nil | exact Pick.rfl' _ | exact Pick.skip (Pick.rfl' _) | exact Pick.skip (Pick.skip (Pick.rfl' _)) | (apply Pick.cons; focus (first | exact .head | exact (.tail .head) | exact (.tail (.tail .head)) | exact (.tail (.tail (.tail .head))) | exact (.tail (.tail (.tail (.tail .head)))) | exact (.tail (.tail (.tail (.tail (.tail .head))))) | exact (.tail (.tail (.tail (.tail (.tail (.tail .head)))))) | exact (.tail (.tail (.tail (.tail (.tail (.tail (.tail .head))))))) | exact (.tail (.tail (.tail (.tail (.tail (.tail (.tail (.tail .head)))))))) | exact (.tail (.tail (.tail (.tail (.tail (.tail (.tail (.tail (.tail .head))))))))) | exact (.tail (.tail (.tail (.tail (.tail (.tail (.tail (.tail (.tail (.tail .head)))))))))) | exact (.tail (.tail (.tail (.tail (.tail (.tail (.tail (.tail (.tail (.tail (.tail .head))))))))))) | exact (.tail (.tail (.tail (.tail (.tail (.tail (.tail (.tail (.tail (.tail (.tail (.tail .head)))))))))))) | exact (.tail (.tail (.tail (.tail (.tail (.tail (.tail (.tail (.tail (.tail (.tail (.tail (.tail .head))))))))))))))))) ?_
          · omega
          intro q hq
          (repeat (with_reducible refine G_seq ?_))
          refine G_region ?_
          refine GL_y rfl rfl (Y_move rfl) ?_
          refine GL_y rfl rfl (Y_move rfl) ?_
          refine GL_y rfl rfl (Y_leqN rfl rfl) ?_
          refine GL_nil ?_
          (repeat (first | (with_reducible refine R_seq ?_) | (with_reducible refine R_block_normal ?_)))
          (repeat (with_reducible refine G_seq ?_))
          refine G_cond_dec rfl (fun ht75 => ?_) (fun ht75 => ?_)
          · -- yes
            (repeat (with_reducible refine G_seq ?_))
            refine G_skip ?_
            (repeat (first | (with_reducible refine R_seq ?_) | (with_reducible refine R_block_normal ?_)))
            (repeat (with_reducible refine G_seq ?_))
            refine G_block ?_
            obtain ⟨z, hz⟩ : ∃ y, nums[q]? = some y := ⟨nums[q], List.getElem?_eq_getElem (by omega)⟩
            (repeat (with_reducible refine G_seq ?_))
            refine G_region ?_
            refine GL_y rfl rfl (Y_move rfl) ?_
            refine GL_y rfl rfl (Y_move rfl) ?_
            refine GL_y rfl rfl (Y_move rfl) ?_
            refine GL_y rfl rfl (Y_nAt hn rfl rfl hz rfl) ?_
            refine GL_y rfl rfl (Y_nGet hn (by simp) rfl hz) ?_
            refine GL_call rfl rfl rfl rfl Try.call10 .nil (fun w hw => find_gone (hO2.sl hw.tail) (by omega) rfl hm (by rw [List.mem_take_iff_getElem]; exact ⟨q, by have := (List.getElem?_eq_some_iff.1 hz).1; omega, (List.getElem?_eq_some_iff.1 hz).2⟩)) ?_
            rintro _ _ ⟨rfl, rfl⟩
            refine GL_y rfl rfl (Y_move rfl) ?_
            refine GL_y rfl rfl (Y_extract rfl rfl) ?_
            refine GL_y rfl rfl (Y_extract rfl rfl) ?_
            refine GL_w rfl rfl (W_alloc zr28 fun b15 => ?_)
            refine GL_s rfl (S_all rfl rfl ag28 (by rfl) (all_B _) (by first | exact .head | exact (.tail .head) | exact (.tail (.tail .head)) | exact (.tail (.tail (.tail .head))) | exact (.tail (.tail (.tail (.tail .head)))) | exact (.tail (.tail (.tail (.tail (.tail .head))))) | exact (.tail (.tail (.tail (.tail (.tail (.tail .head)))))) | exact (.tail (.tail (.tail (.tail (.tail (.tail (.tail .head))))))) | exact (.tail (.tail (.tail (.tail (.tail (.tail (.tail (.tail .head)))))))) | exact (.tail (.tail (.tail (.tail (.tail (.tail (.tail (.tail (.tail .head))))))))) | exact (.tail (.tail (.tail (.tail (.tail (.tail (.tail (.tail (.tail (.tail .head)))))))))) | exact (.tail (.tail (.tail (.tail (.tail (.tail (.tail (.tail (.tail (.tail (.tail .head))))))))))) | exact (.tail (.tail (.tail (.tail (.tail (.tail (.tail (.tail (.tail (.tail (.tail (.tail .head)))))))))))) | exact (.tail (.tail (.tail (.tail (.tail (.tail (.tail (.tail (.tail (.tail (.tail (.tail (.tail .head)))))))))))))) (by rfl)) ?_
            refine GL_y rfl rfl (Y_assign rfl) ?_
            refine GL_nil ?_
            (repeat (first | (with_reducible refine R_seq ?_) | (with_reducible refine R_block_normal ?_)))
            (repeat (with_reducible refine G_seq ?_))
            refine G_region ?_
            refine GL_y rfl rfl (Y_move rfl) ?_
            refine GL_y rfl rfl (Y_iop (v := .bool false) rfl rfl rfl) ?_
            refine GL_nil ?_
            (repeat (first | (with_reducible refine R_seq ?_) | (with_reducible refine R_block_normal ?_)))
            (repeat (with_reducible refine G_seq ?_))
            refine G_cond_f rfl (by first | rfl | decide | (simp; done) | (simp; omega)) ?_
            (repeat (with_reducible refine G_seq ?_))
            refine G_skip ?_
            (repeat (first | (with_reducible refine R_seq ?_) | (with_reducible refine R_block_normal ?_)))
            (repeat (with_reducible refine G_seq ?_))
            refine G_region ?_
            refine GL_y rfl rfl (Y_move rfl) ?_
            refine GL_y rfl rfl (Y_addN (b := 1) rfl rfl (by first | omega | decide)) ?_
            refine GL_y rfl rfl (Y_assign rfl) ?_
            refine GL_nil ?_
            (repeat (first | (with_reducible refine R_seq ?_) | (with_reducible refine R_block_normal ?_)))
            (repeat (with_reducible refine R_block_normal ?_))
            refine R_fam (q + 1) ?_ (⟨by first | rfl | decide, by first | rfl | decide, by first | rfl | decide, by first | rfl | decide, by first | rfl | decide, by first | rfl | decide, by first | rfl | decide, by first | rfl | decide, by first | rfl | decide, by first | rfl | decide, trivial⟩) (by repeat (first | exact .nil | exact Pick.rfl' _ | exact Pick.skip (Pick.rfl' _) | exact Pick.skip (Pick.skip (Pick.rfl' _)) | (apply Pick.cons; focus (first | exact .head | exact (.tail .head) | exact (.tail (.tail .head)) | exact (.tail (.tail (.tail .head))) | exact (.tail (.tail (.tail (.tail .head)))) | exact (.tail (.tail (.tail (.tail (.tail .head))))) | exact (.tail (.tail (.tail (.tail (.tail (.tail .head)))))) | exact (.tail (.tail (.tail (.tail (.tail (.tail (.tail .head))))))) | exact (.tail (.tail (.tail (.tail (.tail (.tail (.tail (.tail .head)))))))) | exact (.tail (.tail (.tail (.tail (.tail (.tail (.tail (.tail (.tail .head))))))))) | exact (.tail (.tail (.tail (.tail (.tail (.tail (.tail (.tail (.tail (.tail .head)))))))))) | exact (.tail (.tail (.tail (.tail (.tail (.tail (.tail (.tail (.tail (.tail (.tail .head))))))))))) | exact (.tail (.tail (.tail (.tail (.tail (.tail (.tail (.tail (.tail (.tail (.tail (.tail .head)))))))))))) | exact (.tail (.tail (.tail (.tail (.tail (.tail (.tail (.tail (.tail (.tail (.tail (.tail (.tail .head)))))))))))))))))
            exact ⟨by omega, by omega⟩
          · -- no
            (repeat (with_reducible refine G_seq ?_))
            refine G_exit ?_
            (repeat (first | (with_reducible refine R_then_exit ?_) | (with_reducible refine R_block_exit ?_) | (with_reducible refine R_block_other (by decide) ?_)))
            (repeat (first | (with_reducible refine R_seq ?_) | (with_reducible refine R_block_normal ?_)))
            (repeat (with_reducible refine G_seq ?_))
            refine G_region ?_
            refine GL_y rfl rfl (Y_move rfl) ?_
            refine GL_y rfl rfl (Y_addN (b := 1) rfl rfl (by first | omega | decide)) ?_
            refine GL_y rfl rfl (Y_assign rfl) ?_
            refine GL_nil ?_
            (repeat (first | (with_reducible refine R_seq ?_) | (with_reducible refine R_block_normal ?_)))
            (repeat (with_reducible refine R_block_normal ?_))
            refine R_fam ⟨i.i + 1, j.ao, j.c, j.N⟩ ?_ (⟨by first | rfl | decide, by first | rfl | decide, by first | rfl | decide, by first | rfl | decide, by first | rfl | decide, by first | rfl | decide, by first | rfl | decide, by first | rfl | decide, by first | rfl | decide, trivial⟩) (by repeat (first | exact .nil | exact Pick.rfl' _ | exact Pick.skip (Pick.rfl' _) | exact Pick.skip (Pick.skip (Pick.rfl' _)) | (apply Pick.cons; focus (first | exact .head | exact (.tail .head) | exact (.tail (.tail .head)) | exact (.tail (.tail (.tail .head))) | exact (.tail (.tail (.tail (.tail .head)))) | exact (.tail (.tail (.tail (.tail (.tail .head))))) | exact (.tail (.tail (.tail (.tail (.tail (.tail .head)))))) | exact (.tail (.tail (.tail (.tail (.tail (.tail (.tail .head))))))) | exact (.tail (.tail (.tail (.tail (.tail (.tail (.tail (.tail .head)))))))) | exact (.tail (.tail (.tail (.tail (.tail (.tail (.tail (.tail (.tail .head))))))))) | exact (.tail (.tail (.tail (.tail (.tail (.tail (.tail (.tail (.tail (.tail .head)))))))))) | exact (.tail (.tail (.tail (.tail (.tail (.tail (.tail (.tail (.tail (.tail (.tail .head))))))))))) | exact (.tail (.tail (.tail (.tail (.tail (.tail (.tail (.tail (.tail (.tail (.tail (.tail .head)))))))))))) | exact (.tail (.tail (.tail (.tail (.tail (.tail (.tail (.tail (.tail (.tail (.tail (.tail (.tail .head)))))))))))))))))
            exact ⟨⟨by simp only; omega, hO2⟩, by simp only; omega⟩
        · -- g65 False
          refine GL_y rfl rfl (Y_move rfl) ?_
          refine GL_y rfl rfl (Y_move rfl) ?_
          refine GL_y rfl rfl (Y_nAt hn rfl rfl hy rfl) ?_
          refine GL_y rfl rfl (Y_nGet hn (by simp) rfl hy) ?_
          refine GL_y rfl rfl (Y_move rfl) ?_
          refine GL_y rfl rfl (Y_iop rfl rfl rfl) ?_
          refine GL_y rfl rfl (Y_pick rfl rfl rfl rfl) ?_
          refine GL_set 72 (.bool (decide (x ∈ nums.take (i.i + 1)))) rfl ?_ ?_
          · have ht := take_mem (x := x) hy
            congr 1
            exact decide_eq_decide.2 ⟨fun h => ht.2 (.inr h), fun h => (ht.1 h).resolve_left (of_decide_eq_false g65)⟩
          refine GL_y rfl rfl (Y_assign rfl) ?_
          refine GL_nil ?_
          (repeat (first | (with_reducible refine R_seq ?_) | (with_reducible refine R_block_normal ?_)))
          (repeat (with_reducible refine G_seq ?_))
          refine G_region ?_
          refine GL_y rfl rfl (Y_assign rfl) ?_
          refine GL_nil ?_
          (repeat (first | (with_reducible refine R_seq ?_) | (with_reducible refine R_block_normal ?_)))
          (repeat (with_reducible refine G_seq ?_))
          refine G_block ?_
          (repeat (with_reducible refine G_seq ?_))
          refine G_loop (ι := Nat) (fun q => i.i + 1 - q) (fun q => q ≤ i.i + 1) (fun q => [(0, .slice ao ring.length c), (1, .slice nao nums.length nc), (2, .int .i64 x), (6, .bool false), (7, .pointer (some ⟨b7, 0, none⟩)), (8, .int .i64 ((findD ring x).2 : Nat)), (9, .slice j.ao ring.length j.c), (10, .bool (decide (x ∈ nums.take (i.i + 1)))), (11, .int .i64 (i.i : Int)), (14, .int .i64 (q : Int))]) (fun q => ⟨b7, 28, (List.replicate 32 (bv 0)).length, B (findD ring x).1, (0, 0)⟩ :: j.N) 0 ?_ (⟨by first | rfl | decide, by first | rfl | decide, by first | rfl | decide, by first | rfl | decide, by first | rfl | decide, by first | rfl | decide, by first | rfl | decide, by first | rfl | decide, by first | rfl | decide, by first | rfl | decide, trivial⟩) (by repeat (first | exact .nil | exact Pick.rfl' _ | exact Pick.skip (Pick.rfl' _) | exact Pick.skip (Pick.skip (Pick.rfl' _)) | (apply Pick.cons; focus (first | exact .head | exact (.tail .head) | exact (.tail (.tail .head)) | exact (.tail (.tail (.tail .head))) | exact (.tail (.tail (.tail (.tail .head)))) | exact (.tail (.tail (.tail (.tail (.tail .head))))) | exact (.tail (.tail (.tail (.tail (.tail (.tail .head)))))) | exact (.tail (.tail (.tail (.tail (.tail (.tail (.tail .head))))))) | exact (.tail (.tail (.tail (.tail (.tail (.tail (.tail (.tail .head)))))))) | exact (.tail (.tail (.tail (.tail (.tail (.tail (.tail (.tail (.tail .head))))))))) | exact (.tail (.tail (.tail (.tail (.tail (.tail (.tail (.tail (.tail (.tail .head)))))))))) | exact (.tail (.tail (.tail (.tail (.tail (.tail (.tail (.tail (.tail (.tail (.tail .head))))))))))) | exact (.tail (.tail (.tail (.tail (.tail (.tail (.tail (.tail (.tail (.tail (.tail (.tail .head)))))))))))) | exact (.tail (.tail (.tail (.tail (.tail (.tail (.tail (.tail (.tail (.tail (.tail (.tail (.tail .head))))))))))))))))) ?_
          · omega
          intro q hq
          (repeat (with_reducible refine G_seq ?_))
          refine G_region ?_
          refine GL_y rfl rfl (Y_move rfl) ?_
          refine GL_y rfl rfl (Y_move rfl) ?_
          refine GL_y rfl rfl (Y_leqN rfl rfl) ?_
          refine GL_nil ?_
          (repeat (first | (with_reducible refine R_seq ?_) | (with_reducible refine R_block_normal ?_)))
          (repeat (with_reducible refine G_seq ?_))
          refine G_cond_dec rfl (fun ht75 => ?_) (fun ht75 => ?_)
          · -- yes
            (repeat (with_reducible refine G_seq ?_))
            refine G_skip ?_
            (repeat (first | (with_reducible refine R_seq ?_) | (with_reducible refine R_block_normal ?_)))
            (repeat (with_reducible refine G_seq ?_))
            refine G_block ?_
            obtain ⟨z, hz⟩ : ∃ y, nums[q]? = some y := ⟨nums[q], List.getElem?_eq_getElem (by omega)⟩
            (repeat (with_reducible refine G_seq ?_))
            refine G_region ?_
            refine GL_y rfl rfl (Y_move rfl) ?_
            refine GL_y rfl rfl (Y_move rfl) ?_
            refine GL_y rfl rfl (Y_move rfl) ?_
            refine GL_y rfl rfl (Y_nAt hn rfl rfl hz rfl) ?_
            refine GL_y rfl rfl (Y_nGet hn (by simp) rfl hz) ?_
            refine GL_call rfl rfl rfl rfl Try.call10 .nil (fun w hw => find_gone (hO2.sl hw.tail) (by omega) rfl hm (by rw [List.mem_take_iff_getElem]; exact ⟨q, by have := (List.getElem?_eq_some_iff.1 hz).1; omega, (List.getElem?_eq_some_iff.1 hz).2⟩)) ?_
            rintro _ _ ⟨rfl, rfl⟩
            refine GL_y rfl rfl (Y_move rfl) ?_
            refine GL_y rfl rfl (Y_extract rfl rfl) ?_
            refine GL_y rfl rfl (Y_extract rfl rfl) ?_
            refine GL_w rfl rfl (W_alloc zr28 fun b15 => ?_)
            refine GL_s rfl (S_all rfl rfl ag28 (by rfl) (all_B _) (by first | exact .head | exact (.tail .head) | exact (.tail (.tail .head)) | exact (.tail (.tail (.tail .head))) | exact (.tail (.tail (.tail (.tail .head)))) | exact (.tail (.tail (.tail (.tail (.tail .head))))) | exact (.tail (.tail (.tail (.tail (.tail (.tail .head)))))) | exact (.tail (.tail (.tail (.tail (.tail (.tail (.tail .head))))))) | exact (.tail (.tail (.tail (.tail (.tail (.tail (.tail (.tail .head)))))))) | exact (.tail (.tail (.tail (.tail (.tail (.tail (.tail (.tail (.tail .head))))))))) | exact (.tail (.tail (.tail (.tail (.tail (.tail (.tail (.tail (.tail (.tail .head)))))))))) | exact (.tail (.tail (.tail (.tail (.tail (.tail (.tail (.tail (.tail (.tail (.tail .head))))))))))) | exact (.tail (.tail (.tail (.tail (.tail (.tail (.tail (.tail (.tail (.tail (.tail (.tail .head)))))))))))) | exact (.tail (.tail (.tail (.tail (.tail (.tail (.tail (.tail (.tail (.tail (.tail (.tail (.tail .head)))))))))))))) (by rfl)) ?_
            refine GL_y rfl rfl (Y_assign rfl) ?_
            refine GL_nil ?_
            (repeat (first | (with_reducible refine R_seq ?_) | (with_reducible refine R_block_normal ?_)))
            (repeat (with_reducible refine G_seq ?_))
            refine G_region ?_
            refine GL_y rfl rfl (Y_move rfl) ?_
            refine GL_y rfl rfl (Y_iop (v := .bool false) rfl rfl rfl) ?_
            refine GL_nil ?_
            (repeat (first | (with_reducible refine R_seq ?_) | (with_reducible refine R_block_normal ?_)))
            (repeat (with_reducible refine G_seq ?_))
            refine G_cond_f rfl (by first | rfl | decide | (simp; done) | (simp; omega)) ?_
            (repeat (with_reducible refine G_seq ?_))
            refine G_skip ?_
            (repeat (first | (with_reducible refine R_seq ?_) | (with_reducible refine R_block_normal ?_)))
            (repeat (with_reducible refine G_seq ?_))
            refine G_region ?_
            refine GL_y rfl rfl (Y_move rfl) ?_
            refine GL_y rfl rfl (Y_addN (b := 1) rfl rfl (by first | omega | decide)) ?_
            refine GL_y rfl rfl (Y_assign rfl) ?_
            refine GL_nil ?_
            (repeat (first | (with_reducible refine R_seq ?_) | (with_reducible refine R_block_normal ?_)))
            (repeat (with_reducible refine R_block_normal ?_))
            refine R_fam (q + 1) ?_ (⟨by first | rfl | decide, by first | rfl | decide, by first | rfl | decide, by first | rfl | decide, by first | rfl | decide, by first | rfl | decide, by first | rfl | decide, by first | rfl | decide, by first | rfl | decide, by first | rfl | decide, trivial⟩) (by repeat (first | exact .nil | exact Pick.rfl' _ | exact Pick.skip (Pick.rfl' _) | exact Pick.skip (Pick.skip (Pick.rfl' _)) | (apply Pick.cons; focus (first | exact .head | exact (.tail .head) | exact (.tail (.tail .head)) | exact (.tail (.tail (.tail .head))) | exact (.tail (.tail (.tail (.tail .head)))) | exact (.tail (.tail (.tail (.tail (.tail .head))))) | exact (.tail (.tail (.tail (.tail (.tail (.tail .head)))))) | exact (.tail (.tail (.tail (.tail (.tail (.tail (.tail .head))))))) | exact (.tail (.tail (.tail (.tail (.tail (.tail (.tail (.tail .head)))))))) | exact (.tail (.tail (.tail (.tail (.tail (.tail (.tail (.tail (.tail .head))))))))) | exact (.tail (.tail (.tail (.tail (.tail (.tail (.tail (.tail (.tail (.tail .head)))))))))) | exact (.tail (.tail (.tail (.tail (.tail (.tail (.tail (.tail (.tail (.tail (.tail .head))))))))))) | exact (.tail (.tail (.tail (.tail (.tail (.tail (.tail (.tail (.tail (.tail (.tail (.tail .head)))))))))))) | exact (.tail (.tail (.tail (.tail (.tail (.tail (.tail (.tail (.tail (.tail (.tail (.tail (.tail .head)))))))))))))))))
            exact ⟨by omega, by omega⟩
          · -- no
            (repeat (with_reducible refine G_seq ?_))
            refine G_exit ?_
            (repeat (first | (with_reducible refine R_then_exit ?_) | (with_reducible refine R_block_exit ?_) | (with_reducible refine R_block_other (by decide) ?_)))
            (repeat (first | (with_reducible refine R_seq ?_) | (with_reducible refine R_block_normal ?_)))
            (repeat (with_reducible refine G_seq ?_))
            refine G_region ?_
            refine GL_y rfl rfl (Y_move rfl) ?_
            refine GL_y rfl rfl (Y_addN (b := 1) rfl rfl (by first | omega | decide)) ?_
            refine GL_y rfl rfl (Y_assign rfl) ?_
            refine GL_nil ?_
            (repeat (first | (with_reducible refine R_seq ?_) | (with_reducible refine R_block_normal ?_)))
            (repeat (with_reducible refine R_block_normal ?_))
            refine R_fam ⟨i.i + 1, j.ao, j.c, j.N⟩ ?_ (⟨by first | rfl | decide, by first | rfl | decide, by first | rfl | decide, by first | rfl | decide, by first | rfl | decide, by first | rfl | decide, by first | rfl | decide, by first | rfl | decide, by first | rfl | decide, trivial⟩) (by repeat (first | exact .nil | exact Pick.rfl' _ | exact Pick.skip (Pick.rfl' _) | exact Pick.skip (Pick.skip (Pick.rfl' _)) | (apply Pick.cons; focus (first | exact .head | exact (.tail .head) | exact (.tail (.tail .head)) | exact (.tail (.tail (.tail .head))) | exact (.tail (.tail (.tail (.tail .head)))) | exact (.tail (.tail (.tail (.tail (.tail .head))))) | exact (.tail (.tail (.tail (.tail (.tail (.tail .head)))))) | exact (.tail (.tail (.tail (.tail (.tail (.tail (.tail .head))))))) | exact (.tail (.tail (.tail (.tail (.tail (.tail (.tail (.tail .head)))))))) | exact (.tail (.tail (.tail (.tail (.tail (.tail (.tail (.tail (.tail .head))))))))) | exact (.tail (.tail (.tail (.tail (.tail (.tail (.tail (.tail (.tail (.tail .head)))))))))) | exact (.tail (.tail (.tail (.tail (.tail (.tail (.tail (.tail (.tail (.tail (.tail .head))))))))))) | exact (.tail (.tail (.tail (.tail (.tail (.tail (.tail (.tail (.tail (.tail (.tail (.tail .head)))))))))))) | exact (.tail (.tail (.tail (.tail (.tail (.tail (.tail (.tail (.tail (.tail (.tail (.tail (.tail .head)))))))))))))))))
            exact ⟨⟨by simp only; omega, hO2⟩, by simp only; omega⟩
    · -- no
      (repeat (with_reducible refine G_seq ?_))
      refine G_exit ?_
      (repeat (first | (with_reducible refine R_then_exit ?_) | (with_reducible refine R_block_exit ?_) | (with_reducible refine R_block_other (by decide) ?_)))
      (repeat (first | (with_reducible refine R_seq ?_) | (with_reducible refine R_block_normal ?_)))
      have htk : nums.take i.i = nums := List.take_of_length_le (by omega)
      (repeat (with_reducible refine G_seq ?_))
      refine G_region ?_
      refine GL_y rfl rfl (Y_move rfl) ?_
      refine GL_y rfl rfl (Y_move rfl) ?_
      refine GL_call rfl rfl rfl rfl Try.call10 .nil (fun w hw => find_kept (hO.sl hw.tail) (by omega) rfl hm (by rw [htk]; exact hx)) ?_
      rintro _ _ ⟨rfl, rfl⟩
      refine GL_y rfl rfl (Y_move rfl) ?_
      refine GL_y rfl rfl (Y_extract rfl rfl) ?_
      refine GL_y rfl rfl (Y_extract rfl rfl) ?_
      refine GL_w rfl rfl (W_alloc zr28 fun b17 => ?_)
      refine GL_s rfl (S_all rfl rfl ag28 (by rw [len_B, find_len]) (all_B _) (by first | exact .head | exact (.tail .head) | exact (.tail (.tail .head)) | exact (.tail (.tail (.tail .head))) | exact (.tail (.tail (.tail (.tail .head)))) | exact (.tail (.tail (.tail (.tail (.tail .head))))) | exact (.tail (.tail (.tail (.tail (.tail (.tail .head)))))) | exact (.tail (.tail (.tail (.tail (.tail (.tail (.tail .head))))))) | exact (.tail (.tail (.tail (.tail (.tail (.tail (.tail (.tail .head)))))))) | exact (.tail (.tail (.tail (.tail (.tail (.tail (.tail (.tail (.tail .head))))))))) | exact (.tail (.tail (.tail (.tail (.tail (.tail (.tail (.tail (.tail (.tail .head)))))))))) | exact (.tail (.tail (.tail (.tail (.tail (.tail (.tail (.tail (.tail (.tail (.tail .head))))))))))) | exact (.tail (.tail (.tail (.tail (.tail (.tail (.tail (.tail (.tail (.tail (.tail (.tail .head)))))))))))) | exact (.tail (.tail (.tail (.tail (.tail (.tail (.tail (.tail (.tail (.tail (.tail (.tail (.tail .head)))))))))))))) (by rfl)) ?_
      refine GL_y rfl rfl (Y_assign rfl) ?_
      refine GL_nil ?_
      (repeat (first | (with_reducible refine R_seq ?_) | (with_reducible refine R_block_normal ?_)))
      (repeat (with_reducible refine G_seq ?_))
      refine G_region ?_
      refine GL_call rfl rfl rfl rfl Try.call14 .nil (fun w hw => awake_is) ?_
      rintro _ _ ⟨rfl, rfl⟩
      refine GL_y rfl rfl (Y_move rfl) ?_
      refine GL_set 10 (.bool false) rfl (by rw [htk]; simp [hx]) ?_
      refine GL_y rfl rfl (Y_move rfl) ?_
      refine GL_y rfl rfl (Y_move rfl) ?_
      refine GL_skip rfl rfl ?_
      refine GL_skip rfl rfl ?_
      refine GL_y rfl rfl (Y_pick rfl rfl rfl rfl) ?_
      refine GL_y rfl rfl (Y_move rfl) ?_
      refine GL_y rfl rfl (Y_move rfl) ?_
      refine GL_y rfl rfl (Y_not rfl) ?_
      refine GL_y rfl rfl (Y_move rfl) ?_
      refine GL_y rfl rfl (Y_move rfl) ?_
      refine GL_y rfl rfl (Y_move rfl) ?_
      refine GL_y rfl rfl ((Y_eqlN rfl rfl).as (.bool true) (by simp)) ?_
      refine GL_y rfl rfl (Y_pick rfl rfl rfl rfl) ?_
      refine GL_y rfl rfl (Y_move rfl) ?_
      refine GL_y rfl rfl (Y_loadA rfl (by first | exact .head _ | exact .tail _ (.head _) | exact .tail _ (.tail _ (.head _)) | exact .tail _ (.tail _ (.tail _ (.head _))) | exact .tail _ (.tail _ (.tail _ (.tail _ (.head _)))) | exact .tail _ (.tail _ (.tail _ (.tail _ (.tail _ (.head _))))) | exact .tail _ (.tail _ (.tail _ (.tail _ (.tail _ (.tail _ (.head _)))))) | exact .tail _ (.tail _ (.tail _ (.tail _ (.tail _ (.tail _ (.tail _ (.head _))))))) | exact .tail _ (.tail _ (.tail _ (.tail _ (.tail _ (.tail _ (.tail _ (.tail _ (.head _)))))))) | exact .tail _ (.tail _ (.tail _ (.tail _ (.tail _ (.tail _ (.tail _ (.tail _ (.tail _ (.head _))))))))) | exact .tail _ (.tail _ (.tail _ (.tail _ (.tail _ (.tail _ (.tail _ (.tail _ (.tail _ (.tail _ (.head _)))))))))) | exact .tail _ (.tail _ (.tail _ (.tail _ (.tail _ (.tail _ (.tail _ (.tail _ (.tail _ (.tail _ (.tail _ (.head _))))))))))) | exact .tail _ (.tail _ (.tail _ (.tail _ (.tail _ (.tail _ (.tail _ (.tail _ (.tail _ (.tail _ (.tail _ (.tail _ (.head _)))))))))))) | exact .tail _ (.tail _ (.tail _ (.tail _ (.tail _ (.tail _ (.tail _ (.tail _ (.tail _ (.tail _ (.tail _ (.tail _ (.tail _ (.head _)))))))))))))) ag28 (by rw [len_B, find_len])) ?_
      refine GL_y rfl rfl (Y_loadA rfl (by first | exact .head _ | exact .tail _ (.head _) | exact .tail _ (.tail _ (.head _)) | exact .tail _ (.tail _ (.tail _ (.head _))) | exact .tail _ (.tail _ (.tail _ (.tail _ (.head _)))) | exact .tail _ (.tail _ (.tail _ (.tail _ (.tail _ (.head _))))) | exact .tail _ (.tail _ (.tail _ (.tail _ (.tail _ (.tail _ (.head _)))))) | exact .tail _ (.tail _ (.tail _ (.tail _ (.tail _ (.tail _ (.tail _ (.head _))))))) | exact .tail _ (.tail _ (.tail _ (.tail _ (.tail _ (.tail _ (.tail _ (.tail _ (.head _)))))))) | exact .tail _ (.tail _ (.tail _ (.tail _ (.tail _ (.tail _ (.tail _ (.tail _ (.tail _ (.head _))))))))) | exact .tail _ (.tail _ (.tail _ (.tail _ (.tail _ (.tail _ (.tail _ (.tail _ (.tail _ (.tail _ (.head _)))))))))) | exact .tail _ (.tail _ (.tail _ (.tail _ (.tail _ (.tail _ (.tail _ (.tail _ (.tail _ (.tail _ (.tail _ (.head _))))))))))) | exact .tail _ (.tail _ (.tail _ (.tail _ (.tail _ (.tail _ (.tail _ (.tail _ (.tail _ (.tail _ (.tail _ (.tail _ (.head _)))))))))))) | exact .tail _ (.tail _ (.tail _ (.tail _ (.tail _ (.tail _ (.tail _ (.tail _ (.tail _ (.tail _ (.tail _ (.tail _ (.tail _ (.head _)))))))))))))) ag28 (by rw [len_B, find_len])) ?_
      refine GL_y rfl rfl ((Y_eqB eg28 ti28 rfl rfl (find_len _ _) (find_len _ _)).as (.bool true) (by simp)) ?_
      refine GL_y rfl rfl (Y_pick rfl rfl rfl rfl) ?_
      refine GL_y rfl rfl (Y_pick rfl rfl rfl rfl) ?_
      refine GL_y rfl rfl (Y_pick rfl rfl rfl rfl) ?_
      refine GL_y rfl rfl (Y_assign rfl) ?_
      refine GL_nil ?_
      (repeat (first | (with_reducible refine R_seq ?_) | (with_reducible refine R_block_normal ?_)))
      (repeat (with_reducible refine G_seq ?_))
      refine G_ret ?_
      (repeat (first | (with_reducible refine R_then_ret ?_) | (with_reducible refine R_block_ret ?_)))
      refine R_ret (.tmp rfl .nil) [] .nil ⟨rfl, rfl⟩
theorem keysRevoked_is {ao nao : Option Addr} {c nc : Nat} {ring : List KeyD} {nums : List Int} {x : Int} {w : World} (hs : SlAt w ao (ringL ring)) (hn : SlAt w nao (nums.map (Value.int .i64))) : FnAt Try.prog 4 [.slice ao ring.length c, .slice nao nums.length nc, .int .i64 x] [] w (Ret fun v N => v = .bool true ∧ N = []) := by
  rcases Nat.lt_or_ge 100 ring.length with hl | hl
  · exact rev_long1 hl
  · rcases Nat.lt_or_ge 30 nums.length with hnl | hnl
    · exact rev_long2 hl hnl
    · cases hm : mayB ring with
      | false => exact rev_bad hs hl hnl hm
      | true =>
        by_cases hx : x ∈ nums
        · exact rev_hit hs hn hl hnl hm hx
        · exact rev_miss hs hn hl hnl hm hx
end Go.Proofs.Ytkdodpcafamhaaa

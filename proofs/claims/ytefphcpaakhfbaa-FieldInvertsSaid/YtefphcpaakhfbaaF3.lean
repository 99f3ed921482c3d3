/-
  prime, freeze, fold, add, neg.
-/
import Derived.Test.YtefphcpaakhfbaaF2
namespace Go.Proofs.Ytefphcpaakhfbaa
open Go Go.Sl Go.RowKit Go.Fp


theorem P_w : w256 = 2 * P + 38 := by decide
theorem elV_P : elV P = [wv 18446744073709551597, wv 18446744073709551615, wv 18446744073709551615, wv 9223372036854775807] := by
  have h0 : wd P 0 = 18446744073709551597 := by decide
  have h1 : wd P 1 = 18446744073709551615 := by decide
  have h2 : wd P 2 = 18446744073709551615 := by decide
  have h3 : wd P 3 = 9223372036854775807 := by decide
  simp only [elV, h0, h1, h2, h3]
set_option maxHeartbeats 4000000 in
theorem prime_is {w : World} : FnAt Try.prog 30 [] [] w (Ret fun v N => v = .agg (elV P).toArray ∧ N = []) := by
  rw [elV_P]
  refine FnAt.intro Try.func30 rfl Try.ntmps30 rfl _ rfl ?_
  (repeat (with_reducible refine G_seq ?_))
  refine G_region ?_
  refine GL_w rfl rfl (W_alloc zr37 fun b0 => ?_)
  refine GL_nil ?_
  (repeat (first | (with_reducible refine R_seq ?_) | (with_reducible refine R_block_normal ?_)))
  (repeat (with_reducible refine G_seq ?_))
  refine G_region ?_
  refine GL_y rfl rfl (Y_build (v := .agg [wv 18446744073709551597, wv 18446744073709551615, wv 18446744073709551615, wv 9223372036854775807].toArray) (vs := [(0, wv 18446744073709551597), (1, wv 18446744073709551615), (2, wv 18446744073709551615), (3, wv 9223372036854775807)]) rfl (fun w => run_build w 37 _ _ (by kernel_rfl))) ?_
  refine GL_s rfl (S_all rfl rfl ag37 (by rfl) (by rfl) (by repeat (first | exact .head | apply Rem.tail)) (by rfl)) ?_
  refine GL_nil ?_
  (repeat (first | (with_reducible refine R_seq ?_) | (with_reducible refine R_block_normal ?_)))
  (repeat (with_reducible refine G_seq ?_))
  refine G_ret ?_
  (repeat (first | (with_reducible refine R_then_ret ?_) | (with_reducible refine R_block_ret ?_)))
  refine R_ret (.ag rfl (by repeat (first | exact .head _ | apply List.Mem.tail)) (by exact ag37) .nil) [] .nil ⟨rfl, rfl⟩
theorem frz {y : Nat} (hge : P ≤ y) (hy : y < w256) : (y + w256 - P) % w256 = y - P := by
  have h := P_w
  have e : y + w256 - P = (y - P) + w256 := by omega
  rw [e, Nat.add_mod_right, Nat.mod_eq_of_lt (by omega)]
set_option maxHeartbeats 4000000 in
theorem freeze_is {x : Nat} {w : World} (hx : x < w256) : FnAt Try.prog 45 [.agg (elV x).toArray] [] w (Ret fun v N => v = .agg (elV (x % P)).toArray ∧ N = []) := by
  refine FnAt.intro Try.func45 rfl Try.ntmps45 rfl _ rfl ?_
  (repeat (with_reducible refine G_seq ?_))
  refine G_region ?_
  refine GL_w rfl rfl (W_boxA rfl fun b1 => ?_)
  refine GL_w rfl rfl (W_alloc zr37 fun b2 => ?_)
  refine GL_nil ?_
  (repeat (first | (with_reducible refine R_seq ?_) | (with_reducible refine R_block_normal ?_)))
  (repeat (with_reducible refine G_seq ?_))
  refine G_block ?_
  (repeat (with_reducible refine G_seq ?_))
  refine G_loop (ι := Nat) (fun y => y) (fun y => y % P = x % P ∧ y < w256) (fun y => [(1, .pointer (some ⟨b1, 0, none⟩)), (2, .pointer (some ⟨b2, 0, none⟩))]) (fun y => [⟨b1, 37, 4, elV y, (0, 0)⟩, ⟨b2, 37, 4, [wv 0, wv 0, wv 0, wv 0], (0, 0)⟩]) x ?_ (⟨by first | rfl | decide, by first | rfl | decide, trivial⟩) (by repeat (first | exact .nil | exact Pick.rfl' _ | exact Pick.skip (Pick.rfl' _) | exact Pick.skip (Pick.skip (Pick.rfl' _)) | (apply Pick.cons; focus (repeat (first | exact .head | apply Rem.tail))))) ?_
  · exact ⟨rfl, hx⟩
  intro y ⟨hi, hy⟩
  (repeat (with_reducible refine G_seq ?_))
  refine G_block ?_
  (repeat (with_reducible refine G_seq ?_))
  refine G_draw [7] 9 rfl (by kernel_rfl) ?_
  refine GA_l 0 rfl (by kernel_rfl) (by kernel_rfl) (by kernel_rfl) (fun _ _ _ h => h) rfl rfl rfl rfl (Y_loadA rfl (by repeat (first | exact .head _ | apply List.Mem.tail)) ag37 (by rfl)) ?_
  refine GA_all [1, 6] (by kernel_rfl) rfl ⟨?_, ?_, trivial⟩
  · -- 1 comes up
    refine GO_call rfl rfl rfl rfl rfl rfl Try.call30 (fun w hw => prime_is) ?_
    rintro _ _ ⟨rfl, rfl⟩
    refine GA_all [2, 6] (by kernel_rfl) rfl ⟨?_, ?_, trivial⟩
    · -- 2 comes up
      refine GO_call rfl rfl rfl rfl rfl rfl Try.call29 (fun w hw => less_is hy (by decide)) ?_
      rintro _ _ ⟨rfl, rfl⟩
      refine GA_y 3 rfl (by kernel_rfl) (by kernel_rfl) (by kernel_rfl) (fun _ _ _ h => h) rfl rfl rfl (Y_move rfl) ?_
      refine GA_y 4 rfl (by kernel_rfl) (by kernel_rfl) (by kernel_rfl) (fun _ _ _ h => h) rfl rfl rfl (Y_extract rfl rfl) ?_
      refine GA_y 5 rfl (by kernel_rfl) (by kernel_rfl) (by kernel_rfl) (fun _ _ _ h => h) rfl rfl rfl (Y_extract rfl rfl) ?_
      refine GA_one 6 (by kernel_rfl) ?_
      refine GO_w rfl rfl rfl rfl (W_alloc zr37 fun b3 => ⟨⟨_, by repeat (first | exact .nil | exact Pick.rfl' _ | exact Pick.skip (Pick.rfl' _) | exact Pick.skip (Pick.skip (Pick.rfl' _)) | (apply Pick.cons; focus (repeat (first | exact .head | apply Rem.tail))))⟩, ?_⟩)
      refine GA_one 7 (by kernel_rfl) ?_
      refine GO_s rfl rfl rfl (S_all rfl rfl ag37 (by rfl) (by rfl) (by repeat (first | exact .head | apply Rem.tail)) (by rfl)) ?_
      refine GA_y 8 rfl (by kernel_rfl) (by kernel_rfl) (by kernel_rfl) (fun _ _ _ h => h) rfl rfl rfl (Y_assign rfl) ?_
      refine GA_done (by kernel_rfl) ?_
      (repeat (first | (with_reducible refine R_seq ?_) | (with_reducible refine R_block_normal ?_)))
      (repeat (with_reducible refine G_seq ?_))
      refine G_region ?_
      refine GL_y rfl rfl (Y_move rfl) ?_
      refine GL_y rfl rfl (Y_not rfl) ?_
      refine GL_nil ?_
      (repeat (first | (with_reducible refine R_seq ?_) | (with_reducible refine R_block_normal ?_)))
      (repeat (with_reducible refine G_seq ?_))
      refine G_cond rfl (fun h12 => ?_) (fun h12 => ?_)
      · -- yes
        have hlt : y < P := by simpa using h12
        (repeat (with_reducible refine G_seq ?_))
        refine G_region ?_
        refine GL_y rfl rfl (Y_loadA rfl (by repeat (first | exact .head _ | apply List.Mem.tail)) ag37 (by rfl)) ?_
        refine GL_s rfl (S_all rfl rfl ag37 (by rfl) (by rfl) (by repeat (first | exact .head | apply Rem.tail)) (by rfl)) ?_
        refine GL_nil ?_
        (repeat (first | (with_reducible refine R_seq ?_) | (with_reducible refine R_block_normal ?_)))
        (repeat (with_reducible refine G_seq ?_))
        refine G_ret ?_
        (repeat (first | (with_reducible refine R_then_ret ?_) | (with_reducible refine R_block_ret ?_)))
        have e : y = x % P := by rw [← hi, Nat.mod_eq_of_lt hlt]
        refine R_ret (.ag rfl (by repeat (first | exact .head _ | apply List.Mem.tail)) (by exact ag37) .nil) [] .nil ⟨congrArg (fun z => Value.agg (elV z).toArray) e, rfl⟩
      · -- no
        have hge : P ≤ y := by simpa using h12
        (repeat (with_reducible refine G_seq ?_))
        refine G_skip ?_
        (repeat (first | (with_reducible refine R_seq ?_) | (with_reducible refine R_block_normal ?_)))
        (repeat (with_reducible refine G_seq ?_))
        refine G_region ?_
        refine GL_y rfl rfl (Y_loadA rfl (by repeat (first | exact .head _ | apply List.Mem.tail)) ag37 (by rfl)) ?_
        refine GL_s rfl (S_all rfl rfl ag37 (by rfl) (by rfl) (by repeat (first | exact .head | apply Rem.tail)) (by rfl)) ?_
        refine GL_nil ?_
        (repeat (first | (with_reducible refine R_seq ?_) | (with_reducible refine R_block_normal ?_)))
        (repeat (with_reducible refine R_block_normal ?_))
        refine R_fam ((y + w256 - P) % w256) ?_ (⟨by first | rfl | decide, by first | rfl | decide, trivial⟩) (by repeat (first | exact .nil | exact Pick.rfl' _ | exact Pick.skip (Pick.rfl' _) | exact Pick.skip (Pick.skip (Pick.rfl' _)) | (apply Pick.cons; focus (repeat (first | exact .head | apply Rem.tail)))))
        rw [frz hge hy]
        have hp := P_pos
        exact ⟨⟨by rw [← Nat.mod_eq_sub_mod hge, hi], by omega⟩, by omega⟩
    · -- 6 comes up
      refine GO_w rfl rfl rfl rfl (W_alloc zr37 fun b3 => ⟨⟨_, by repeat (first | exact .nil | exact Pick.rfl' _ | exact Pick.skip (Pick.rfl' _) | exact Pick.skip (Pick.skip (Pick.rfl' _)) | (apply Pick.cons; focus (repeat (first | exact .head | apply Rem.tail))))⟩, ?_⟩)
      refine GA_one 2 (by kernel_rfl) ?_
      refine GO_call rfl rfl rfl rfl rfl rfl Try.call29 (fun w hw => less_is hy (by decide)) ?_
      rintro _ _ ⟨rfl, rfl⟩
      refine GA_y 3 rfl (by kernel_rfl) (by kernel_rfl) (by kernel_rfl) (fun _ _ _ h => h) rfl rfl rfl (Y_move rfl) ?_
      refine GA_y 4 rfl (by kernel_rfl) (by kernel_rfl) (by kernel_rfl) (fun _ _ _ h => h) rfl rfl rfl (Y_extract rfl rfl) ?_
      refine GA_y 5 rfl (by kernel_rfl) (by kernel_rfl) (by kernel_rfl) (fun _ _ _ h => h) rfl rfl rfl (Y_extract rfl rfl) ?_
      refine GA_one 7 (by kernel_rfl) ?_
      refine GO_s rfl rfl rfl (S_all rfl rfl ag37 (by rfl) (by rfl) (by repeat (first | exact .head | apply Rem.tail)) (by rfl)) ?_
      refine GA_y 8 rfl (by kernel_rfl) (by kernel_rfl) (by kernel_rfl) (fun _ _ _ h => h) rfl rfl rfl (Y_assign rfl) ?_
      refine GA_done (by kernel_rfl) ?_
      (repeat (first | (with_reducible refine R_seq ?_) | (with_reducible refine R_block_normal ?_)))
      (repeat (with_reducible refine G_seq ?_))
      refine G_region ?_
      refine GL_y rfl rfl (Y_move rfl) ?_
      refine GL_y rfl rfl (Y_not rfl) ?_
      refine GL_nil ?_
      (repeat (first | (with_reducible refine R_seq ?_) | (with_reducible refine R_block_normal ?_)))
      (repeat (with_reducible refine G_seq ?_))
      refine G_cond rfl (fun h12 => ?_) (fun h12 => ?_)
      · -- yes
        have hlt : y < P := by simpa using h12
        (repeat (with_reducible refine G_seq ?_))
        refine G_region ?_
        refine GL_y rfl rfl (Y_loadA rfl (by repeat (first | exact .head _ | apply List.Mem.tail)) ag37 (by rfl)) ?_
        refine GL_s rfl (S_all rfl rfl ag37 (by rfl) (by rfl) (by repeat (first | exact .head | apply Rem.tail)) (by rfl)) ?_
        refine GL_nil ?_
        (repeat (first | (with_reducible refine R_seq ?_) | (with_reducible refine R_block_normal ?_)))
        (repeat (with_reducible refine G_seq ?_))
        refine G_ret ?_
        (repeat (first | (with_reducible refine R_then_ret ?_) | (with_reducible refine R_block_ret ?_)))
        have e : y = x % P := by rw [← hi, Nat.mod_eq_of_lt hlt]
        refine R_ret (.ag rfl (by repeat (first | exact .head _ | apply List.Mem.tail)) (by exact ag37) .nil) [] .nil ⟨congrArg (fun z => Value.agg (elV z).toArray) e, rfl⟩
      · -- no
        have hge : P ≤ y := by simpa using h12
        (repeat (with_reducible refine G_seq ?_))
        refine G_skip ?_
        (repeat (first | (with_reducible refine R_seq ?_) | (with_reducible refine R_block_normal ?_)))
        (repeat (with_reducible refine G_seq ?_))
        refine G_region ?_
        refine GL_y rfl rfl (Y_loadA rfl (by repeat (first | exact .head _ | apply List.Mem.tail)) ag37 (by rfl)) ?_
        refine GL_s rfl (S_all rfl rfl ag37 (by rfl) (by rfl) (by repeat (first | exact .head | apply Rem.tail)) (by rfl)) ?_
        refine GL_nil ?_
        (repeat (first | (with_reducible refine R_seq ?_) | (with_reducible refine R_block_normal ?_)))
        (repeat (with_reducible refine R_block_normal ?_))
        refine R_fam ((y + w256 - P) % w256) ?_ (⟨by first | rfl | decide, by first | rfl | decide, trivial⟩) (by repeat (first | exact .nil | exact Pick.rfl' _ | exact Pick.skip (Pick.rfl' _) | exact Pick.skip (Pick.skip (Pick.rfl' _)) | (apply Pick.cons; focus (repeat (first | exact .head | apply Rem.tail)))))
        rw [frz hge hy]
        have hp := P_pos
        exact ⟨⟨by rw [← Nat.mod_eq_sub_mod hge, hi], by omega⟩, by omega⟩
  · -- 6 comes up
    refine GO_w rfl rfl rfl rfl (W_alloc zr37 fun b3 => ⟨⟨_, by repeat (first | exact .nil | exact Pick.rfl' _ | exact Pick.skip (Pick.rfl' _) | exact Pick.skip (Pick.skip (Pick.rfl' _)) | (apply Pick.cons; focus (repeat (first | exact .head | apply Rem.tail))))⟩, ?_⟩)
    refine GA_one 1 (by kernel_rfl) ?_
    refine GO_call rfl rfl rfl rfl rfl rfl Try.call30 (fun w hw => prime_is) ?_
    rintro _ _ ⟨rfl, rfl⟩
    refine GA_one 2 (by kernel_rfl) ?_
    refine GO_call rfl rfl rfl rfl rfl rfl Try.call29 (fun w hw => less_is hy (by decide)) ?_
    rintro _ _ ⟨rfl, rfl⟩
    refine GA_y 3 rfl (by kernel_rfl) (by kernel_rfl) (by kernel_rfl) (fun _ _ _ h => h) rfl rfl rfl (Y_move rfl) ?_
    refine GA_y 4 rfl (by kernel_rfl) (by kernel_rfl) (by kernel_rfl) (fun _ _ _ h => h) rfl rfl rfl (Y_extract rfl rfl) ?_
    refine GA_y 5 rfl (by kernel_rfl) (by kernel_rfl) (by kernel_rfl) (fun _ _ _ h => h) rfl rfl rfl (Y_extract rfl rfl) ?_
    refine GA_one 7 (by kernel_rfl) ?_
    refine GO_s rfl rfl rfl (S_all rfl rfl ag37 (by rfl) (by rfl) (by repeat (first | exact .head | apply Rem.tail)) (by rfl)) ?_
    refine GA_y 8 rfl (by kernel_rfl) (by kernel_rfl) (by kernel_rfl) (fun _ _ _ h => h) rfl rfl rfl (Y_assign rfl) ?_
    refine GA_done (by kernel_rfl) ?_
    (repeat (first | (with_reducible refine R_seq ?_) | (with_reducible refine R_block_normal ?_)))
    (repeat (with_reducible refine G_seq ?_))
    refine G_region ?_
    refine GL_y rfl rfl (Y_move rfl) ?_
    refine GL_y rfl rfl (Y_not rfl) ?_
    refine GL_nil ?_
    (repeat (first | (with_reducible refine R_seq ?_) | (with_reducible refine R_block_normal ?_)))
    (repeat (with_reducible refine G_seq ?_))
    refine G_cond rfl (fun h12 => ?_) (fun h12 => ?_)
    · -- yes
      have hlt : y < P := by simpa using h12
      (repeat (with_reducible refine G_seq ?_))
      refine G_region ?_
      refine GL_y rfl rfl (Y_loadA rfl (by repeat (first | exact .head _ | apply List.Mem.tail)) ag37 (by rfl)) ?_
      refine GL_s rfl (S_all rfl rfl ag37 (by rfl) (by rfl) (by repeat (first | exact .head | apply Rem.tail)) (by rfl)) ?_
      refine GL_nil ?_
      (repeat (first | (with_reducible refine R_seq ?_) | (with_reducible refine R_block_normal ?_)))
      (repeat (with_reducible refine G_seq ?_))
      refine G_ret ?_
      (repeat (first | (with_reducible refine R_then_ret ?_) | (with_reducible refine R_block_ret ?_)))
      have e : y = x % P := by rw [← hi, Nat.mod_eq_of_lt hlt]
      refine R_ret (.ag rfl (by repeat (first | exact .head _ | apply List.Mem.tail)) (by exact ag37) .nil) [] .nil ⟨congrArg (fun z => Value.agg (elV z).toArray) e, rfl⟩
    · -- no
      have hge : P ≤ y := by simpa using h12
      (repeat (with_reducible refine G_seq ?_))
      refine G_skip ?_
      (repeat (first | (with_reducible refine R_seq ?_) | (with_reducible refine R_block_normal ?_)))
      (repeat (with_reducible refine G_seq ?_))
      refine G_region ?_
      refine GL_y rfl rfl (Y_loadA rfl (by repeat (first | exact .head _ | apply List.Mem.tail)) ag37 (by rfl)) ?_
      refine GL_s rfl (S_all rfl rfl ag37 (by rfl) (by rfl) (by repeat (first | exact .head | apply Rem.tail)) (by rfl)) ?_
      refine GL_nil ?_
      (repeat (first | (with_reducible refine R_seq ?_) | (with_reducible refine R_block_normal ?_)))
      (repeat (with_reducible refine R_block_normal ?_))
      refine R_fam ((y + w256 - P) % w256) ?_ (⟨by first | rfl | decide, by first | rfl | decide, trivial⟩) (by repeat (first | exact .nil | exact Pick.rfl' _ | exact Pick.skip (Pick.rfl' _) | exact Pick.skip (Pick.skip (Pick.rfl' _)) | (apply Pick.cons; focus (repeat (first | exact .head | apply Rem.tail)))))
      rw [frz hge hy]
      have hp := P_pos
      exact ⟨⟨by rw [← Nat.mod_eq_sub_mod hge, hi], by omega⟩, by omega⟩
theorem freeze_w {x0 x1 x2 x3 r : Nat} {w : World} (h0 : x0 < w64) (h1 : x1 < w64) (h2 : x2 < w64) (h3 : x3 < w64) (hr : elN x0 x1 x2 x3 % P = r) : FnAt Try.prog 45 [.agg [wv x0, wv x1, wv x2, wv x3].toArray] [] w (Ret fun v N => v = .agg (elV r).toArray ∧ N = []) := by
  have h := freeze_is (w := w) (elN_lt h0 h1 h2 h3)
  rwa [elV_N h0 h1 h2 h3, hr] at h
theorem add64_ac (x y c : Nat) (hc : c ≤ 1) (w : World) : (callFunc 43 [wv x, wv y, wv c].toArray).run Try.prog w = .ok (.value (.tuple [wv (acw x y c), wv (acc x y c)].toArray)) w := add64_is x y c hc w
theorem acc1 {x y c : Nat} (hx : x < w64) (hy : y < w64) (hc : c ≤ 1) : acc x y c ≤ 1 := acc_le hx hy hc
theorem acw_lt (x y c : Nat) : acw x y c < w64 := (ac_eq x y c).2
theorem fold_law {x0 x1 x2 x3 d0 d1 d2 d3 c0 c1 c2 c3 t : Nat} (e0 : x0 + t * 38 % w64 + 0 = d0 + w64 * c0) (e1 : x1 + t * 38 / w64 + c0 = d1 + w64 * c1) (e2 : x2 + 0 + c1 = d2 + w64 * c2) (e3 : x3 + 0 + c2 = d3 + w64 * c3) :
    elN d0 d1 d2 d3 + w256 * c3 + 2 * P * t = elN x0 x1 x2 x3 + w256 * t := by
  simp only [elN, w64, w256, P] at *
  omega
structure FI where
  x0 : Nat
  x1 : Nat
  x2 : Nat
  x3 : Nat
  t : Nat
def FI.n (i : FI) : Nat := elN i.x0 i.x1 i.x2 i.x3 + w256 * i.t
structure FI.ok (i : FI) (v : Nat) : Prop where
  h0 : i.x0 < w64
  h1 : i.x1 < w64
  h2 : i.x2 < w64
  h3 : i.x3 < w64
  ht : i.t < w64
  hv : i.n % P = v
theorem fold_end {i : FI} {v : Nat} (h : i.ok v) (h0 : ¬ i.t > 0) : elN i.x0 i.x1 i.x2 i.x3 % P = v := by
  have e : i.n = elN i.x0 i.x1 i.x2 i.x3 := by
    unfold FI.n
    rw [Nat.eq_zero_of_not_pos h0, Nat.mul_zero, Nat.add_zero]
  rw [← e]
  exact h.hv
theorem fold_next {i : FI} {v : Nat} (h : i.ok v) (ht : 0 < i.t) {j : FI} {c0 c1 c2 : Nat} (e0 : i.x0 + i.t * 38 % w64 + 0 = j.x0 + w64 * c0) (e1 : i.x1 + i.t * 38 / w64 + c0 = j.x1 + w64 * c1) (e2 : i.x2 + 0 + c1 = j.x2 + w64 * c2) (e3 : i.x3 + 0 + c2 = j.x3 + w64 * j.t)
    (l0 : j.x0 < w64) (l1 : j.x1 < w64) (l2 : j.x2 < w64) (l3 : j.x3 < w64) (lt : j.t ≤ 1) : j.ok v ∧ j.n < i.n := by
  have key : j.n + 2 * P * i.t = i.n := fold_law e0 e1 e2 e3
  refine ⟨⟨l0, l1, l2, l3, Nat.lt_of_le_of_lt lt (by decide), ?_⟩, ?_⟩
  · rw [← h.hv, ← key]
    have e : 2 * P * i.t = P * (2 * i.t) := by rw [Nat.mul_comm 2 P, Nat.mul_assoc]
    rw [e, Nat.add_mul_mod_self_left]
  · have : 0 < 2 * P * i.t := Nat.mul_pos (by decide) ht
    omega
set_option maxHeartbeats 4000000 in
theorem fold_w {x0 x1 x2 x3 t v : Nat} {w : World} (h0 : x0 < w64) (h1 : x1 < w64) (h2 : x2 < w64) (h3 : x3 < w64) (ht : t < w64) (hv : (elN x0 x1 x2 x3 + w256 * t) % P = v) :
    FnAt Try.prog 44 [.agg [wv x0, wv x1, wv x2, wv x3].toArray, wv t] [] w (Ret fun r N => r = .agg (elV v).toArray ∧ N = []) := by
  refine FnAt.intro Try.func44 rfl Try.ntmps44 rfl _ rfl ?_
  (repeat (with_reducible refine G_seq ?_))
  refine G_region ?_
  refine GL_w rfl rfl (W_boxA rfl fun b2 => ?_)
  refine GL_w rfl rfl (W_alloc zr37 fun b4 => ?_)
  refine GL_nil ?_
  (repeat (first | (with_reducible refine R_seq ?_) | (with_reducible refine R_block_normal ?_)))
  (repeat (with_reducible refine G_seq ?_))
  refine G_block ?_
  (repeat (with_reducible refine G_seq ?_))
  refine G_loop (ι := FI) (fun i => i.n) (fun i => i.ok v) (fun i => [(1, wv i.t), (2, .pointer (some ⟨b2, 0, none⟩)), (4, .pointer (some ⟨b4, 0, none⟩))]) (fun i => [⟨b2, 37, 4, [wv i.x0, wv i.x1, wv i.x2, wv i.x3], (0, 0)⟩, ⟨b4, 37, 4, [wv 0, wv 0, wv 0, wv 0], (0, 0)⟩]) ⟨x0, x1, x2, x3, t⟩ ?_ (⟨by first | rfl | decide, by first | rfl | decide, by first | rfl | decide, trivial⟩) (by repeat (first | exact .nil | exact Pick.rfl' _ | exact Pick.skip (Pick.rfl' _) | exact Pick.skip (Pick.skip (Pick.rfl' _)) | (apply Pick.cons; focus (repeat (first | exact .head | apply Rem.tail))))) ?_
  · exact ⟨h0, h1, h2, h3, ht, hv⟩
  intro i hi
  (repeat (with_reducible refine G_seq ?_))
  refine G_region ?_
  refine GL_y rfl rfl (Y_move rfl) ?_
  refine GL_y rfl rfl (Y_gtrN (b := 0) rfl rfl) ?_
  refine GL_nil ?_
  (repeat (first | (with_reducible refine R_seq ?_) | (with_reducible refine R_block_normal ?_)))
  (repeat (with_reducible refine G_seq ?_))
  refine G_cond_dec rfl (fun h9 => ?_) (fun h9 => ?_)
  · -- yes
    (repeat (with_reducible refine G_seq ?_))
    refine G_skip ?_
    (repeat (first | (with_reducible refine R_seq ?_) | (with_reducible refine R_block_normal ?_)))
    (repeat (with_reducible refine G_seq ?_))
    refine G_block ?_
    (repeat (with_reducible refine G_seq ?_))
    refine G_region ?_
    refine GL_y rfl rfl (Y_move rfl) ?_
    refine GL_call rfl rfl rfl rfl Try.call46 .nil (fun w hw => mul64_is hi.ht (by decide)) ?_
    rintro _ _ ⟨rfl, rfl⟩
    have hlo : i.t * 38 % w64 < w64 := Nat.mod_lt _ (by decide)
    have hh : i.t * 38 / w64 < w64 := by
      have := hi.ht
      simp only [w64] at *
      omega
    have k0 := acc1 hi.h0 hlo (Nat.zero_le 1)
    have k1 := acc1 hi.h1 hh k0
    have k2 := acc1 hi.h2 (show 0 < w64 by decide) k1
    have k3 := acc1 hi.h3 (show 0 < w64 by decide) k2
    refine GL_y rfl rfl (Y_move rfl) ?_
    refine GL_y rfl rfl (Y_extract rfl rfl) ?_
    refine GL_y rfl rfl (Y_extract rfl rfl) ?_
    refine GL_y rfl rfl (Y_assign rfl) ?_
    refine GL_y rfl rfl (Y_assign rfl) ?_
    refine GL_nil ?_
    (repeat (first | (with_reducible refine R_seq ?_) | (with_reducible refine R_block_normal ?_)))
    (repeat (with_reducible refine G_seq ?_))
    refine G_region ?_
    refine GL_y rfl rfl (Y_assign rfl) ?_
    refine GL_nil ?_
    (repeat (first | (with_reducible refine R_seq ?_) | (with_reducible refine R_block_normal ?_)))
    (repeat (with_reducible refine G_seq ?_))
    refine G_region ?_
    refine GL_y rfl rfl (Y_idxA1 (j := 0) ar37 rfl rfl (by first | omega | decide)) ?_
    refine GL_y rfl rfl (Y_loadS rfl sc35 (by repeat (first | exact .head _ | apply List.Mem.tail)) (by rfl)) ?_
    refine GL_y rfl rfl (Y_move rfl) ?_
    refine GL_y rfl rfl (Y_ext rfl rfl (fun w => add64_ac _ _ _ (Nat.zero_le 1) w)) ?_
    refine GL_y rfl rfl (Y_move rfl) ?_
    refine GL_y rfl rfl (Y_extract rfl rfl) ?_
    refine GL_y rfl rfl (Y_extract rfl rfl) ?_
    refine GL_y rfl rfl (Y_idxA1 (j := 0) ar37 rfl rfl (by first | omega | decide)) ?_
    refine GL_s rfl (S_sc rfl sc35 rfl rfl (by repeat (first | exact .head | apply Rem.tail)) (by rfl)) ?_
    refine GL_y rfl rfl (Y_assign rfl) ?_
    refine GL_nil ?_
    (repeat (first | (with_reducible refine R_seq ?_) | (with_reducible refine R_block_normal ?_)))
    (repeat (with_reducible refine G_seq ?_))
    refine G_region ?_
    refine GL_y rfl rfl (Y_idxA1 (j := 1) ar37 rfl rfl (by first | omega | decide)) ?_
    refine GL_y rfl rfl (Y_loadS rfl sc35 (by repeat (first | exact .head _ | apply List.Mem.tail)) (by rfl)) ?_
    refine GL_y rfl rfl (Y_move rfl) ?_
    refine GL_y rfl rfl (Y_move rfl) ?_
    refine GL_y rfl rfl (Y_ext rfl rfl (fun w => add64_ac _ _ _ (k0) w)) ?_
    refine GL_y rfl rfl (Y_move rfl) ?_
    refine GL_y rfl rfl (Y_extract rfl rfl) ?_
    refine GL_y rfl rfl (Y_extract rfl rfl) ?_
    refine GL_y rfl rfl (Y_idxA1 (j := 1) ar37 rfl rfl (by first | omega | decide)) ?_
    refine GL_s rfl (S_sc rfl sc35 rfl rfl (by repeat (first | exact .head | apply Rem.tail)) (by rfl)) ?_
    refine GL_y rfl rfl (Y_assign rfl) ?_
    refine GL_nil ?_
    (repeat (first | (with_reducible refine R_seq ?_) | (with_reducible refine R_block_normal ?_)))
    (repeat (with_reducible refine G_seq ?_))
    refine G_region ?_
    refine GL_y rfl rfl (Y_idxA1 (j := 2) ar37 rfl rfl (by first | omega | decide)) ?_
    refine GL_y rfl rfl (Y_loadS rfl sc35 (by repeat (first | exact .head _ | apply List.Mem.tail)) (by rfl)) ?_
    refine GL_y rfl rfl (Y_move rfl) ?_
    refine GL_y rfl rfl (Y_ext rfl rfl (fun w => add64_ac _ _ _ (k1) w)) ?_
    refine GL_y rfl rfl (Y_move rfl) ?_
    refine GL_y rfl rfl (Y_extract rfl rfl) ?_
    refine GL_y rfl rfl (Y_extract rfl rfl) ?_
    refine GL_y rfl rfl (Y_idxA1 (j := 2) ar37 rfl rfl (by first | omega | decide)) ?_
    refine GL_s rfl (S_sc rfl sc35 rfl rfl (by repeat (first | exact .head | apply Rem.tail)) (by rfl)) ?_
    refine GL_y rfl rfl (Y_assign rfl) ?_
    refine GL_nil ?_
    (repeat (first | (with_reducible refine R_seq ?_) | (with_reducible refine R_block_normal ?_)))
    (repeat (with_reducible refine G_seq ?_))
    refine G_region ?_
    refine GL_y rfl rfl (Y_idxA1 (j := 3) ar37 rfl rfl (by first | omega | decide)) ?_
    refine GL_y rfl rfl (Y_loadS rfl sc35 (by repeat (first | exact .head _ | apply List.Mem.tail)) (by rfl)) ?_
    refine GL_y rfl rfl (Y_move rfl) ?_
    refine GL_y rfl rfl (Y_ext rfl rfl (fun w => add64_ac _ _ _ (k2) w)) ?_
    refine GL_y rfl rfl (Y_move rfl) ?_
    refine GL_y rfl rfl (Y_extract rfl rfl) ?_
    refine GL_y rfl rfl (Y_extract rfl rfl) ?_
    refine GL_y rfl rfl (Y_idxA1 (j := 3) ar37 rfl rfl (by first | omega | decide)) ?_
    refine GL_s rfl (S_sc rfl sc35 rfl rfl (by repeat (first | exact .head | apply Rem.tail)) (by rfl)) ?_
    refine GL_y rfl rfl (Y_assign rfl) ?_
    refine GL_nil ?_
    (repeat (first | (with_reducible refine R_seq ?_) | (with_reducible refine R_block_normal ?_)))
    (repeat (with_reducible refine G_seq ?_))
    refine G_region ?_
    refine GL_y rfl rfl (Y_move rfl) ?_
    refine GL_y rfl rfl (Y_assign rfl) ?_
    refine GL_nil ?_
    (repeat (first | (with_reducible refine R_seq ?_) | (with_reducible refine R_block_normal ?_)))
    (repeat (with_reducible refine R_block_normal ?_))
    refine R_fam ⟨(acw i.x0 (i.t * 38 % w64) 0), (acw i.x1 (i.t * 38 / w64) (acc i.x0 (i.t * 38 % w64) 0)), (acw i.x2 0 (acc i.x1 (i.t * 38 / w64) (acc i.x0 (i.t * 38 % w64) 0))), (acw i.x3 0 (acc i.x2 0 (acc i.x1 (i.t * 38 / w64) (acc i.x0 (i.t * 38 % w64) 0)))), (acc i.x3 0 (acc i.x2 0 (acc i.x1 (i.t * 38 / w64) (acc i.x0 (i.t * 38 % w64) 0))))⟩ ?_ (⟨by first | rfl | decide, by first | rfl | decide, by first | rfl | decide, trivial⟩) (by repeat (first | exact .nil | exact Pick.rfl' _ | exact Pick.skip (Pick.rfl' _) | exact Pick.skip (Pick.skip (Pick.rfl' _)) | (apply Pick.cons; focus (repeat (first | exact .head | apply Rem.tail)))))
    exact fold_next hi h9 (ac_eq _ _ _).1 (ac_eq _ _ _).1 (ac_eq _ _ _).1 (ac_eq _ _ _).1 (acw_lt _ _ _) (acw_lt _ _ _) (acw_lt _ _ _) (acw_lt _ _ _) k3
  · -- no
    (repeat (with_reducible refine G_seq ?_))
    refine G_exit ?_
    (repeat (first | (with_reducible refine R_then_exit ?_) | (with_reducible refine R_block_exit ?_) | (with_reducible refine R_block_other (by decide) ?_)))
    (repeat (first | (with_reducible refine R_seq ?_) | (with_reducible refine R_block_normal ?_)))
    have hz := fold_end hi h9
    (repeat (with_reducible refine G_seq ?_))
    refine G_region ?_
    refine GL_y rfl rfl (Y_loadA rfl (by repeat (first | exact .head _ | apply List.Mem.tail)) ag37 (by rfl)) ?_
    refine GL_call rfl rfl rfl rfl Try.call45 .nil (fun w hw => freeze_w hi.h0 hi.h1 hi.h2 hi.h3 hz) ?_
    rintro _ _ ⟨rfl, rfl⟩
    refine GL_s rfl (S_all rfl rfl ag37 (by rfl) (by rfl) (by repeat (first | exact .head | apply Rem.tail)) (by rfl)) ?_
    refine GL_nil ?_
    (repeat (first | (with_reducible refine R_seq ?_) | (with_reducible refine R_block_normal ?_)))
    (repeat (with_reducible refine G_seq ?_))
    refine G_ret ?_
    (repeat (first | (with_reducible refine R_then_ret ?_) | (with_reducible refine R_block_ret ?_)))
    refine R_ret (.ag rfl (by repeat (first | exact .head _ | apply List.Mem.tail)) (by exact ag37) .nil) [] .nil ⟨rfl, rfl⟩
theorem add_law {x0 x1 x2 x3 y0 y1 y2 y3 d0 d1 d2 d3 c0 c1 c2 c3 : Nat} (e0 : x0 + y0 + 0 = d0 + w64 * c0) (e1 : x1 + y1 + c0 = d1 + w64 * c1) (e2 : x2 + y2 + c1 = d2 + w64 * c2) (e3 : x3 + y3 + c2 = d3 + w64 * c3) :
    elN d0 d1 d2 d3 + w256 * c3 = elN x0 x1 x2 x3 + elN y0 y1 y2 y3 := by
  simp only [elN, w64, w256] at *
  omega
set_option maxHeartbeats 4000000 in
theorem add_w {x0 x1 x2 x3 y0 y1 y2 y3 v : Nat} {w : World} (h0 : x0 < w64) (h1 : x1 < w64) (h2 : x2 < w64) (h3 : x3 < w64) (g0 : y0 < w64) (g1 : y1 < w64) (g2 : y2 < w64) (g3 : y3 < w64) (hv : (elN x0 x1 x2 x3 + elN y0 y1 y2 y3) % P = v) :
    FnAt Try.prog 24 [.agg [wv x0, wv x1, wv x2, wv x3].toArray, .agg [wv y0, wv y1, wv y2, wv y3].toArray] [] w (Ret fun r N => r = .agg (elV v).toArray ∧ N = []) := by
  have k0 := acc1 h0 g0 (Nat.zero_le 1)
  have k1 := acc1 h1 g1 k0
  have k2 := acc1 h2 g2 k1
  have k3 := acc1 h3 g3 k2
  refine FnAt.intro Try.func24 rfl Try.ntmps24 rfl _ rfl ?_
  (repeat (with_reducible refine G_seq ?_))
  refine G_region ?_
  refine GL_w rfl rfl (W_boxA rfl fun b2 => ?_)
  refine GL_w rfl rfl (W_boxA rfl fun b3 => ?_)
  refine GL_w rfl rfl (W_alloc zr37 fun b4 => ?_)
  refine GL_nil ?_
  (repeat (first | (with_reducible refine R_seq ?_) | (with_reducible refine R_block_normal ?_)))
  (repeat (with_reducible refine G_seq ?_))
  refine G_region ?_
  refine GL_y rfl rfl (Y_assign rfl) ?_
  refine GL_nil ?_
  (repeat (first | (with_reducible refine R_seq ?_) | (with_reducible refine R_block_normal ?_)))
  (repeat (with_reducible refine G_seq ?_))
  refine G_region ?_
  refine GL_y rfl rfl (Y_move rfl) ?_
  refine GL_nil ?_
  (repeat (first | (with_reducible refine R_seq ?_) | (with_reducible refine R_block_normal ?_)))
  (repeat (with_reducible refine G_seq ?_))
  refine G_block ?_
  (repeat (with_reducible refine G_seq ?_))
  refine G_rounds 4 ?_
  -- round 0 of loop 0
  (repeat (with_reducible refine G_seq ?_))
  refine G_region ?_
  refine GL_y rfl rfl (Y_lssN (b := 4) rfl rfl) ?_
  refine GL_nil ?_
  (repeat (first | (with_reducible refine R_seq ?_) | (with_reducible refine R_block_normal ?_)))
  (repeat (with_reducible refine G_seq ?_))
  refine G_cond_t rfl (by first | rfl | decide) ?_
  (repeat (with_reducible refine G_seq ?_))
  refine G_skip ?_
  (repeat (first | (with_reducible refine R_seq ?_) | (with_reducible refine R_block_normal ?_)))
  (repeat (with_reducible refine G_seq ?_))
  refine G_block ?_
  (repeat (with_reducible refine G_seq ?_))
  refine G_region ?_
  refine GL_y rfl rfl (Y_move rfl) ?_
  refine GL_y rfl rfl (Y_assign rfl) ?_
  refine GL_nil ?_
  (repeat (first | (with_reducible refine R_seq ?_) | (with_reducible refine R_block_normal ?_)))
  (repeat (with_reducible refine G_seq ?_))
  refine G_draw [13] 15 rfl (by kernel_rfl) ?_
  refine GA_y 0 rfl (by kernel_rfl) (by kernel_rfl) (by kernel_rfl) (fun _ _ _ h => h) rfl rfl rfl (Y_move rfl) ?_
  refine GA_y 1 rfl (by kernel_rfl) (by kernel_rfl) (by kernel_rfl) (fun _ _ _ h => h) rfl rfl rfl (Y_move rfl) ?_
  refine GA_y 2 rfl (by kernel_rfl) (by kernel_rfl) (by kernel_rfl) (fun _ _ _ h => h) rfl rfl rfl (Y_idxA1 ar37 rfl rfl (by first | omega | decide)) ?_
  refine GA_l 3 rfl (by kernel_rfl) (by kernel_rfl) (by kernel_rfl) (fun _ _ _ h => h) rfl rfl rfl rfl (Y_loadS rfl sc35 (by repeat (first | exact .head _ | apply List.Mem.tail)) (by rfl)) ?_
  refine GA_y 4 rfl (by kernel_rfl) (by kernel_rfl) (by kernel_rfl) (fun _ _ _ h => h) rfl rfl rfl (Y_move rfl) ?_
  refine GA_y 5 rfl (by kernel_rfl) (by kernel_rfl) (by kernel_rfl) (fun _ _ _ h => h) rfl rfl rfl (Y_idxA1 ar37 rfl rfl (by first | omega | decide)) ?_
  refine GA_l 6 rfl (by kernel_rfl) (by kernel_rfl) (by kernel_rfl) (fun _ _ _ h => h) rfl rfl rfl rfl (Y_loadS rfl sc35 (by repeat (first | exact .head _ | apply List.Mem.tail)) (by rfl)) ?_
  refine GA_y 7 rfl (by kernel_rfl) (by kernel_rfl) (by kernel_rfl) (fun _ _ _ h => h) rfl rfl rfl (Y_move rfl) ?_
  refine GA_y 8 rfl (by kernel_rfl) (by kernel_rfl) (by kernel_rfl) (fun _ _ _ h => h) rfl rfl rfl (Y_ext rfl rfl (fun w => add64_ac _ _ _ (Nat.zero_le 1) w)) ?_
  refine GA_y 9 rfl (by kernel_rfl) (by kernel_rfl) (by kernel_rfl) (fun _ _ _ h => h) rfl rfl rfl (Y_move rfl) ?_
  refine GA_y 10 rfl (by kernel_rfl) (by kernel_rfl) (by kernel_rfl) (fun _ _ _ h => h) rfl rfl rfl (Y_extract rfl rfl) ?_
  refine GA_y 11 rfl (by kernel_rfl) (by kernel_rfl) (by kernel_rfl) (fun _ _ _ h => h) rfl rfl rfl (Y_extract rfl rfl) ?_
  refine GA_y 12 rfl (by kernel_rfl) (by kernel_rfl) (by kernel_rfl) (fun _ _ _ h => h) rfl rfl rfl (Y_idxA1 ar37 rfl rfl (by first | omega | decide)) ?_
  refine GA_one 13 (by kernel_rfl) ?_
  refine GO_s rfl rfl rfl (S_sc rfl sc35 rfl rfl (by repeat (first | exact .head | apply Rem.tail)) (by rfl)) ?_
  refine GA_y 14 rfl (by kernel_rfl) (by kernel_rfl) (by kernel_rfl) (fun _ _ _ h => h) rfl rfl rfl (Y_assign rfl) ?_
  refine GA_done (by kernel_rfl) ?_
  (repeat (first | (with_reducible refine R_seq ?_) | (with_reducible refine R_block_normal ?_)))
  (repeat (with_reducible refine G_seq ?_))
  refine G_region ?_
  refine GL_y rfl rfl (Y_addN (b := 1) rfl rfl (by first | omega | decide)) ?_
  refine GL_y rfl rfl (Y_move rfl) ?_
  refine GL_nil ?_
  (repeat (first | (with_reducible refine R_seq ?_) | (with_reducible refine R_block_normal ?_)))
  (repeat (first | (with_reducible refine R_block_normal ?_) | (with_reducible refine R_round ?_)))
  -- round 1 of loop 0
  (repeat (with_reducible refine G_seq ?_))
  refine G_region ?_
  refine GL_y rfl rfl (Y_lssN (b := 4) rfl rfl) ?_
  refine GL_nil ?_
  (repeat (first | (with_reducible refine R_seq ?_) | (with_reducible refine R_block_normal ?_)))
  (repeat (with_reducible refine G_seq ?_))
  refine G_cond_t rfl (by first | rfl | decide) ?_
  (repeat (with_reducible refine G_seq ?_))
  refine G_skip ?_
  (repeat (first | (with_reducible refine R_seq ?_) | (with_reducible refine R_block_normal ?_)))
  (repeat (with_reducible refine G_seq ?_))
  refine G_block ?_
  (repeat (with_reducible refine G_seq ?_))
  refine G_region ?_
  refine GL_y rfl rfl (Y_move rfl) ?_
  refine GL_y rfl rfl (Y_assign rfl) ?_
  refine GL_nil ?_
  (repeat (first | (with_reducible refine R_seq ?_) | (with_reducible refine R_block_normal ?_)))
  (repeat (with_reducible refine G_seq ?_))
  refine G_draw [13] 15 rfl (by kernel_rfl) ?_
  refine GA_y 0 rfl (by kernel_rfl) (by kernel_rfl) (by kernel_rfl) (fun _ _ _ h => h) rfl rfl rfl (Y_move rfl) ?_
  refine GA_y 1 rfl (by kernel_rfl) (by kernel_rfl) (by kernel_rfl) (fun _ _ _ h => h) rfl rfl rfl (Y_move rfl) ?_
  refine GA_y 2 rfl (by kernel_rfl) (by kernel_rfl) (by kernel_rfl) (fun _ _ _ h => h) rfl rfl rfl (Y_idxA1 ar37 rfl rfl (by first | omega | decide)) ?_
  refine GA_l 3 rfl (by kernel_rfl) (by kernel_rfl) (by kernel_rfl) (fun _ _ _ h => h) rfl rfl rfl rfl (Y_loadS rfl sc35 (by repeat (first | exact .head _ | apply List.Mem.tail)) (by rfl)) ?_
  refine GA_y 4 rfl (by kernel_rfl) (by kernel_rfl) (by kernel_rfl) (fun _ _ _ h => h) rfl rfl rfl (Y_move rfl) ?_
  refine GA_y 5 rfl (by kernel_rfl) (by kernel_rfl) (by kernel_rfl) (fun _ _ _ h => h) rfl rfl rfl (Y_idxA1 ar37 rfl rfl (by first | omega | decide)) ?_
  refine GA_l 6 rfl (by kernel_rfl) (by kernel_rfl) (by kernel_rfl) (fun _ _ _ h => h) rfl rfl rfl rfl (Y_loadS rfl sc35 (by repeat (first | exact .head _ | apply List.Mem.tail)) (by rfl)) ?_
  refine GA_y 7 rfl (by kernel_rfl) (by kernel_rfl) (by kernel_rfl) (fun _ _ _ h => h) rfl rfl rfl (Y_move rfl) ?_
  refine GA_y 8 rfl (by kernel_rfl) (by kernel_rfl) (by kernel_rfl) (fun _ _ _ h => h) rfl rfl rfl (Y_ext rfl rfl (fun w => add64_ac _ _ _ (k0) w)) ?_
  refine GA_y 9 rfl (by kernel_rfl) (by kernel_rfl) (by kernel_rfl) (fun _ _ _ h => h) rfl rfl rfl (Y_move rfl) ?_
  refine GA_y 10 rfl (by kernel_rfl) (by kernel_rfl) (by kernel_rfl) (fun _ _ _ h => h) rfl rfl rfl (Y_extract rfl rfl) ?_
  refine GA_y 11 rfl (by kernel_rfl) (by kernel_rfl) (by kernel_rfl) (fun _ _ _ h => h) rfl rfl rfl (Y_extract rfl rfl) ?_
  refine GA_y 12 rfl (by kernel_rfl) (by kernel_rfl) (by kernel_rfl) (fun _ _ _ h => h) rfl rfl rfl (Y_idxA1 ar37 rfl rfl (by first | omega | decide)) ?_
  refine GA_one 13 (by kernel_rfl) ?_
  refine GO_s rfl rfl rfl (S_sc rfl sc35 rfl rfl (by repeat (first | exact .head | apply Rem.tail)) (by rfl)) ?_
  refine GA_y 14 rfl (by kernel_rfl) (by kernel_rfl) (by kernel_rfl) (fun _ _ _ h => h) rfl rfl rfl (Y_assign rfl) ?_
  refine GA_done (by kernel_rfl) ?_
  (repeat (first | (with_reducible refine R_seq ?_) | (with_reducible refine R_block_normal ?_)))
  (repeat (with_reducible refine G_seq ?_))
  refine G_region ?_
  refine GL_y rfl rfl (Y_addN (b := 1) rfl rfl (by first | omega | decide)) ?_
  refine GL_y rfl rfl (Y_move rfl) ?_
  refine GL_nil ?_
  (repeat (first | (with_reducible refine R_seq ?_) | (with_reducible refine R_block_normal ?_)))
  (repeat (first | (with_reducible refine R_block_normal ?_) | (with_reducible refine R_round ?_)))
  -- round 2 of loop 0
  (repeat (with_reducible refine G_seq ?_))
  refine G_region ?_
  refine GL_y rfl rfl (Y_lssN (b := 4) rfl rfl) ?_
  refine GL_nil ?_
  (repeat (first | (with_reducible refine R_seq ?_) | (with_reducible refine R_block_normal ?_)))
  (repeat (with_reducible refine G_seq ?_))
  refine G_cond_t rfl (by first | rfl | decide) ?_
  (repeat (with_reducible refine G_seq ?_))
  refine G_skip ?_
  (repeat (first | (with_reducible refine R_seq ?_) | (with_reducible refine R_block_normal ?_)))
  (repeat (with_reducible refine G_seq ?_))
  refine G_block ?_
  (repeat (with_reducible refine G_seq ?_))
  refine G_region ?_
  refine GL_y rfl rfl (Y_move rfl) ?_
  refine GL_y rfl rfl (Y_assign rfl) ?_
  refine GL_nil ?_
  (repeat (first | (with_reducible refine R_seq ?_) | (with_reducible refine R_block_normal ?_)))
  (repeat (with_reducible refine G_seq ?_))
  refine G_draw [13] 15 rfl (by kernel_rfl) ?_
  refine GA_y 0 rfl (by kernel_rfl) (by kernel_rfl) (by kernel_rfl) (fun _ _ _ h => h) rfl rfl rfl (Y_move rfl) ?_
  refine GA_y 1 rfl (by kernel_rfl) (by kernel_rfl) (by kernel_rfl) (fun _ _ _ h => h) rfl rfl rfl (Y_move rfl) ?_
  refine GA_y 2 rfl (by kernel_rfl) (by kernel_rfl) (by kernel_rfl) (fun _ _ _ h => h) rfl rfl rfl (Y_idxA1 ar37 rfl rfl (by first | omega | decide)) ?_
  refine GA_l 3 rfl (by kernel_rfl) (by kernel_rfl) (by kernel_rfl) (fun _ _ _ h => h) rfl rfl rfl rfl (Y_loadS rfl sc35 (by repeat (first | exact .head _ | apply List.Mem.tail)) (by rfl)) ?_
  refine GA_y 4 rfl (by kernel_rfl) (by kernel_rfl) (by kernel_rfl) (fun _ _ _ h => h) rfl rfl rfl (Y_move rfl) ?_
  refine GA_y 5 rfl (by kernel_rfl) (by kernel_rfl) (by kernel_rfl) (fun _ _ _ h => h) rfl rfl rfl (Y_idxA1 ar37 rfl rfl (by first | omega | decide)) ?_
  refine GA_l 6 rfl (by kernel_rfl) (by kernel_rfl) (by kernel_rfl) (fun _ _ _ h => h) rfl rfl rfl rfl (Y_loadS rfl sc35 (by repeat (first | exact .head _ | apply List.Mem.tail)) (by rfl)) ?_
  refine GA_y 7 rfl (by kernel_rfl) (by kernel_rfl) (by kernel_rfl) (fun _ _ _ h => h) rfl rfl rfl (Y_move rfl) ?_
  refine GA_y 8 rfl (by kernel_rfl) (by kernel_rfl) (by kernel_rfl) (fun _ _ _ h => h) rfl rfl rfl (Y_ext rfl rfl (fun w => add64_ac _ _ _ (k1) w)) ?_
  refine GA_y 9 rfl (by kernel_rfl) (by kernel_rfl) (by kernel_rfl) (fun _ _ _ h => h) rfl rfl rfl (Y_move rfl) ?_
  refine GA_y 10 rfl (by kernel_rfl) (by kernel_rfl) (by kernel_rfl) (fun _ _ _ h => h) rfl rfl rfl (Y_extract rfl rfl) ?_
  refine GA_y 11 rfl (by kernel_rfl) (by kernel_rfl) (by kernel_rfl) (fun _ _ _ h => h) rfl rfl rfl (Y_extract rfl rfl) ?_
  refine GA_y 12 rfl (by kernel_rfl) (by kernel_rfl) (by kernel_rfl) (fun _ _ _ h => h) rfl rfl rfl (Y_idxA1 ar37 rfl rfl (by first | omega | decide)) ?_
  refine GA_one 13 (by kernel_rfl) ?_
  refine GO_s rfl rfl rfl (S_sc rfl sc35 rfl rfl (by repeat (first | exact .head | apply Rem.tail)) (by rfl)) ?_
  refine GA_y 14 rfl (by kernel_rfl) (by kernel_rfl) (by kernel_rfl) (fun _ _ _ h => h) rfl rfl rfl (Y_assign rfl) ?_
  refine GA_done (by kernel_rfl) ?_
  (repeat (first | (with_reducible refine R_seq ?_) | (with_reducible refine R_block_normal ?_)))
  (repeat (with_reducible refine G_seq ?_))
  refine G_region ?_
  refine GL_y rfl rfl (Y_addN (b := 1) rfl rfl (by first | omega | decide)) ?_
  refine GL_y rfl rfl (Y_move rfl) ?_
  refine GL_nil ?_
  (repeat (first | (with_reducible refine R_seq ?_) | (with_reducible refine R_block_normal ?_)))
  (repeat (first | (with_reducible refine R_block_normal ?_) | (with_reducible refine R_round ?_)))
  -- round 3 of loop 0
  (repeat (with_reducible refine G_seq ?_))
  refine G_region ?_
  refine GL_y rfl rfl (Y_lssN (b := 4) rfl rfl) ?_
  refine GL_nil ?_
  (repeat (first | (with_reducible refine R_seq ?_) | (with_reducible refine R_block_normal ?_)))
  (repeat (with_reducible refine G_seq ?_))
  refine G_cond_t rfl (by first | rfl | decide) ?_
  (repeat (with_reducible refine G_seq ?_))
  refine G_skip ?_
  (repeat (first | (with_reducible refine R_seq ?_) | (with_reducible refine R_block_normal ?_)))
  (repeat (with_reducible refine G_seq ?_))
  refine G_block ?_
  (repeat (with_reducible refine G_seq ?_))
  refine G_region ?_
  refine GL_y rfl rfl (Y_move rfl) ?_
  refine GL_y rfl rfl (Y_assign rfl) ?_
  refine GL_nil ?_
  (repeat (first | (with_reducible refine R_seq ?_) | (with_reducible refine R_block_normal ?_)))
  (repeat (with_reducible refine G_seq ?_))
  refine G_draw [13] 15 rfl (by kernel_rfl) ?_
  refine GA_y 0 rfl (by kernel_rfl) (by kernel_rfl) (by kernel_rfl) (fun _ _ _ h => h) rfl rfl rfl (Y_move rfl) ?_
  refine GA_y 1 rfl (by kernel_rfl) (by kernel_rfl) (by kernel_rfl) (fun _ _ _ h => h) rfl rfl rfl (Y_move rfl) ?_
  refine GA_y 2 rfl (by kernel_rfl) (by kernel_rfl) (by kernel_rfl) (fun _ _ _ h => h) rfl rfl rfl (Y_idxA1 ar37 rfl rfl (by first | omega | decide)) ?_
  refine GA_l 3 rfl (by kernel_rfl) (by kernel_rfl) (by kernel_rfl) (fun _ _ _ h => h) rfl rfl rfl rfl (Y_loadS rfl sc35 (by repeat (first | exact .head _ | apply List.Mem.tail)) (by rfl)) ?_
  refine GA_y 4 rfl (by kernel_rfl) (by kernel_rfl) (by kernel_rfl) (fun _ _ _ h => h) rfl rfl rfl (Y_move rfl) ?_
  refine GA_y 5 rfl (by kernel_rfl) (by kernel_rfl) (by kernel_rfl) (fun _ _ _ h => h) rfl rfl rfl (Y_idxA1 ar37 rfl rfl (by first | omega | decide)) ?_
  refine GA_l 6 rfl (by kernel_rfl) (by kernel_rfl) (by kernel_rfl) (fun _ _ _ h => h) rfl rfl rfl rfl (Y_loadS rfl sc35 (by repeat (first | exact .head _ | apply List.Mem.tail)) (by rfl)) ?_
  refine GA_y 7 rfl (by kernel_rfl) (by kernel_rfl) (by kernel_rfl) (fun _ _ _ h => h) rfl rfl rfl (Y_move rfl) ?_
  refine GA_y 8 rfl (by kernel_rfl) (by kernel_rfl) (by kernel_rfl) (fun _ _ _ h => h) rfl rfl rfl (Y_ext rfl rfl (fun w => add64_ac _ _ _ (k2) w)) ?_
  refine GA_y 9 rfl (by kernel_rfl) (by kernel_rfl) (by kernel_rfl) (fun _ _ _ h => h) rfl rfl rfl (Y_move rfl) ?_
  refine GA_y 10 rfl (by kernel_rfl) (by kernel_rfl) (by kernel_rfl) (fun _ _ _ h => h) rfl rfl rfl (Y_extract rfl rfl) ?_
  refine GA_y 11 rfl (by kernel_rfl) (by kernel_rfl) (by kernel_rfl) (fun _ _ _ h => h) rfl rfl rfl (Y_extract rfl rfl) ?_
  refine GA_y 12 rfl (by kernel_rfl) (by kernel_rfl) (by kernel_rfl) (fun _ _ _ h => h) rfl rfl rfl (Y_idxA1 ar37 rfl rfl (by first | omega | decide)) ?_
  refine GA_one 13 (by kernel_rfl) ?_
  refine GO_s rfl rfl rfl (S_sc rfl sc35 rfl rfl (by repeat (first | exact .head | apply Rem.tail)) (by rfl)) ?_
  refine GA_y 14 rfl (by kernel_rfl) (by kernel_rfl) (by kernel_rfl) (fun _ _ _ h => h) rfl rfl rfl (Y_assign rfl) ?_
  refine GA_done (by kernel_rfl) ?_
  (repeat (first | (with_reducible refine R_seq ?_) | (with_reducible refine R_block_normal ?_)))
  (repeat (with_reducible refine G_seq ?_))
  refine G_region ?_
  refine GL_y rfl rfl (Y_addN (b := 1) rfl rfl (by first | omega | decide)) ?_
  refine GL_y rfl rfl (Y_move rfl) ?_
  refine GL_nil ?_
  (repeat (first | (with_reducible refine R_seq ?_) | (with_reducible refine R_block_normal ?_)))
  (repeat (first | (with_reducible refine R_block_normal ?_) | (with_reducible refine R_round ?_)))
  -- round 4 of loop 0
  (repeat (with_reducible refine G_seq ?_))
  refine G_region ?_
  refine GL_y rfl rfl (Y_lssN (b := 4) rfl rfl) ?_
  refine GL_nil ?_
  (repeat (first | (with_reducible refine R_seq ?_) | (with_reducible refine R_block_normal ?_)))
  (repeat (with_reducible refine G_seq ?_))
  refine G_cond_f rfl (by first | rfl | decide) ?_
  (repeat (with_reducible refine G_seq ?_))
  refine G_exit ?_
  (repeat (first | (with_reducible refine R_then_exit ?_) | (with_reducible refine R_block_exit ?_) | (with_reducible refine R_block_other (by decide) ?_)))
  (repeat (first | (with_reducible refine R_seq ?_) | (with_reducible refine R_block_normal ?_)))
  (repeat (with_reducible refine G_seq ?_))
  refine G_region ?_
  refine GL_y rfl rfl (Y_loadA rfl (by repeat (first | exact .head _ | apply List.Mem.tail)) ag37 (by rfl)) ?_
  refine GL_y rfl rfl (Y_move rfl) ?_
  refine GL_call rfl rfl rfl rfl Try.call44 .nil (fun w hw => fold_w (acw_lt _ _ _) (acw_lt _ _ _) (acw_lt _ _ _) (acw_lt _ _ _) (Nat.lt_of_le_of_lt k3 (by decide)) (by rw [add_law (ac_eq _ _ _).1 (ac_eq _ _ _).1 (ac_eq _ _ _).1 (ac_eq _ _ _).1, hv])) ?_
  rintro _ _ ⟨rfl, rfl⟩
  refine GL_s rfl (S_all rfl rfl ag37 (by rfl) (by rfl) (by repeat (first | exact .head | apply Rem.tail)) (by rfl)) ?_
  refine GL_nil ?_
  (repeat (first | (with_reducible refine R_seq ?_) | (with_reducible refine R_block_normal ?_)))
  (repeat (with_reducible refine G_seq ?_))
  refine G_ret ?_
  (repeat (first | (with_reducible refine R_then_ret ?_) | (with_reducible refine R_block_ret ?_)))
  refine R_ret (.ag rfl (by repeat (first | exact .head _ | apply List.Mem.tail)) (by exact ag37) .nil) [] .nil ⟨rfl, rfl⟩
theorem add_is {x y : Nat} {w : World} (hx : x < w256) (hy : y < w256) : FnAt Try.prog 24 [.agg (elV x).toArray, .agg (elV y).toArray] [] w (Ret fun r N => r = .agg (elV ((x + y) % P)).toArray ∧ N = []) :=
  add_w (wd_lt x 0) (wd_lt x 1) (wd_lt x 2) (wd_lt x 3) (wd_lt y 0) (wd_lt y 1) (wd_lt y 2) (wd_lt y 3) (by rw [elN_wd hx, elN_wd hy])
theorem neg_law {x : Nat} (hx : x < P) : (P + w256 - x) % w256 % P = (P - x) % P := by
  have h := P_w
  have e : P + w256 - x = (P - x) + w256 := by omega
  rw [e, Nat.add_mod_right, Nat.mod_eq_of_lt (show P - x < w256 by omega)]
theorem freeze_v {x v : Nat} {w : World} (hx : x < w256) (hv : x % P = v) : FnAt Try.prog 45 [.agg (elV x).toArray] [] w (Ret fun r N => r = .agg (elV v).toArray ∧ N = []) := hv ▸ freeze_is hx
theorem mod_w (n : Nat) : n % w256 < w256 := Nat.mod_lt _ (by decide)
set_option maxHeartbeats 4000000 in
theorem neg_is {x : Nat} {w : World} (hx : x < P) : FnAt Try.prog 26 [.agg (elV x).toArray] [] w (Ret fun r N => r = .agg (elV ((P - x) % P)).toArray ∧ N = []) := by
  have hw := P_w
  refine FnAt.intro Try.func26 rfl Try.ntmps26 rfl _ rfl ?_
  (repeat (with_reducible refine G_seq ?_))
  refine G_region ?_
  refine GL_w rfl rfl (W_boxA rfl fun b1 => ?_)
  refine GL_w rfl rfl (W_alloc zr37 fun b2 => ?_)
  refine GL_nil ?_
  (repeat (first | (with_reducible refine R_seq ?_) | (with_reducible refine R_block_normal ?_)))
  (repeat (with_reducible refine G_seq ?_))
  refine G_draw [7] 9 rfl (by kernel_rfl) ?_
  refine GA_l 1 rfl (by kernel_rfl) (by kernel_rfl) (by kernel_rfl) (fun _ _ _ h => h) rfl rfl rfl rfl (Y_loadA rfl (by repeat (first | exact .head _ | apply List.Mem.tail)) ag37 (by rfl)) ?_
  refine GA_all [0, 6] (by kernel_rfl) rfl ⟨?_, ?_, trivial⟩
  · -- 0 comes up
    refine GO_call rfl rfl rfl rfl rfl rfl Try.call30 (fun w hw => prime_is) ?_
    rintro _ _ ⟨rfl, rfl⟩
    refine GA_all [2, 6] (by kernel_rfl) rfl ⟨?_, ?_, trivial⟩
    · -- 2 comes up
      refine GO_call rfl rfl rfl rfl rfl rfl Try.call29 (fun w hw => less_is (by decide) (show x < w256 by omega)) ?_
      rintro _ _ ⟨rfl, rfl⟩
      refine GA_y 3 rfl (by kernel_rfl) (by kernel_rfl) (by kernel_rfl) (fun _ _ _ h => h) rfl rfl rfl (Y_move rfl) ?_
      refine GA_y 4 rfl (by kernel_rfl) (by kernel_rfl) (by kernel_rfl) (fun _ _ _ h => h) rfl rfl rfl (Y_extract rfl rfl) ?_
      refine GA_y 5 rfl (by kernel_rfl) (by kernel_rfl) (by kernel_rfl) (fun _ _ _ h => h) rfl rfl rfl (Y_extract rfl rfl) ?_
      refine GA_one 6 (by kernel_rfl) ?_
      refine GO_w rfl rfl rfl rfl (W_alloc zr37 fun b3 => ⟨⟨_, by repeat (first | exact .nil | exact Pick.rfl' _ | exact Pick.skip (Pick.rfl' _) | exact Pick.skip (Pick.skip (Pick.rfl' _)) | (apply Pick.cons; focus (repeat (first | exact .head | apply Rem.tail))))⟩, ?_⟩)
      refine GA_one 7 (by kernel_rfl) ?_
      refine GO_s rfl rfl rfl (S_all rfl rfl ag37 (by rfl) (by rfl) (by repeat (first | exact .head | apply Rem.tail)) (by rfl)) ?_
      refine GA_y 8 rfl (by kernel_rfl) (by kernel_rfl) (by kernel_rfl) (fun _ _ _ h => h) rfl rfl rfl (Y_assign rfl) ?_
      refine GA_done (by kernel_rfl) ?_
      (repeat (first | (with_reducible refine R_seq ?_) | (with_reducible refine R_block_normal ?_)))
      (repeat (with_reducible refine G_seq ?_))
      refine G_region ?_
      refine GL_y rfl rfl (Y_loadA rfl (by repeat (first | exact .head _ | apply List.Mem.tail)) ag37 (by rfl)) ?_
      refine GL_call rfl rfl rfl rfl Try.call45 .nil (fun w hw => freeze_v (mod_w _) (neg_law hx)) ?_
      rintro _ _ ⟨rfl, rfl⟩
      refine GL_s rfl (S_all rfl rfl ag37 (by rfl) (by rfl) (by repeat (first | exact .head | apply Rem.tail)) (by rfl)) ?_
      refine GL_nil ?_
      (repeat (first | (with_reducible refine R_seq ?_) | (with_reducible refine R_block_normal ?_)))
      (repeat (with_reducible refine G_seq ?_))
      refine G_ret ?_
      (repeat (first | (with_reducible refine R_then_ret ?_) | (with_reducible refine R_block_ret ?_)))
      refine R_ret (.ag rfl (by repeat (first | exact .head _ | apply List.Mem.tail)) (by exact ag37) .nil) [] .nil ⟨rfl, rfl⟩
    · -- 6 comes up
      refine GO_w rfl rfl rfl rfl (W_alloc zr37 fun b3 => ⟨⟨_, by repeat (first | exact .nil | exact Pick.rfl' _ | exact Pick.skip (Pick.rfl' _) | exact Pick.skip (Pick.skip (Pick.rfl' _)) | (apply Pick.cons; focus (repeat (first | exact .head | apply Rem.tail))))⟩, ?_⟩)
      refine GA_one 2 (by kernel_rfl) ?_
      refine GO_call rfl rfl rfl rfl rfl rfl Try.call29 (fun w hw => less_is (by decide) (show x < w256 by omega)) ?_
      rintro _ _ ⟨rfl, rfl⟩
      refine GA_y 3 rfl (by kernel_rfl) (by kernel_rfl) (by kernel_rfl) (fun _ _ _ h => h) rfl rfl rfl (Y_move rfl) ?_
      refine GA_y 4 rfl (by kernel_rfl) (by kernel_rfl) (by kernel_rfl) (fun _ _ _ h => h) rfl rfl rfl (Y_extract rfl rfl) ?_
      refine GA_y 5 rfl (by kernel_rfl) (by kernel_rfl) (by kernel_rfl) (fun _ _ _ h => h) rfl rfl rfl (Y_extract rfl rfl) ?_
      refine GA_one 7 (by kernel_rfl) ?_
      refine GO_s rfl rfl rfl (S_all rfl rfl ag37 (by rfl) (by rfl) (by repeat (first | exact .head | apply Rem.tail)) (by rfl)) ?_
      refine GA_y 8 rfl (by kernel_rfl) (by kernel_rfl) (by kernel_rfl) (fun _ _ _ h => h) rfl rfl rfl (Y_assign rfl) ?_
      refine GA_done (by kernel_rfl) ?_
      (repeat (first | (with_reducible refine R_seq ?_) | (with_reducible refine R_block_normal ?_)))
      (repeat (with_reducible refine G_seq ?_))
      refine G_region ?_
      refine GL_y rfl rfl (Y_loadA rfl (by repeat (first | exact .head _ | apply List.Mem.tail)) ag37 (by rfl)) ?_
      refine GL_call rfl rfl rfl rfl Try.call45 .nil (fun w hw => freeze_v (mod_w _) (neg_law hx)) ?_
      rintro _ _ ⟨rfl, rfl⟩
      refine GL_s rfl (S_all rfl rfl ag37 (by rfl) (by rfl) (by repeat (first | exact .head | apply Rem.tail)) (by rfl)) ?_
      refine GL_nil ?_
      (repeat (first | (with_reducible refine R_seq ?_) | (with_reducible refine R_block_normal ?_)))
      (repeat (with_reducible refine G_seq ?_))
      refine G_ret ?_
      (repeat (first | (with_reducible refine R_then_ret ?_) | (with_reducible refine R_block_ret ?_)))
      refine R_ret (.ag rfl (by repeat (first | exact .head _ | apply List.Mem.tail)) (by exact ag37) .nil) [] .nil ⟨rfl, rfl⟩
  · -- 6 comes up
    refine GO_w rfl rfl rfl rfl (W_alloc zr37 fun b3 => ⟨⟨_, by repeat (first | exact .nil | exact Pick.rfl' _ | exact Pick.skip (Pick.rfl' _) | exact Pick.skip (Pick.skip (Pick.rfl' _)) | (apply Pick.cons; focus (repeat (first | exact .head | apply Rem.tail))))⟩, ?_⟩)
    refine GA_one 0 (by kernel_rfl) ?_
    refine GO_call rfl rfl rfl rfl rfl rfl Try.call30 (fun w hw => prime_is) ?_
    rintro _ _ ⟨rfl, rfl⟩
    refine GA_one 2 (by kernel_rfl) ?_
    refine GO_call rfl rfl rfl rfl rfl rfl Try.call29 (fun w hw => less_is (by decide) (show x < w256 by omega)) ?_
    rintro _ _ ⟨rfl, rfl⟩
    refine GA_y 3 rfl (by kernel_rfl) (by kernel_rfl) (by kernel_rfl) (fun _ _ _ h => h) rfl rfl rfl (Y_move rfl) ?_
    refine GA_y 4 rfl (by kernel_rfl) (by kernel_rfl) (by kernel_rfl) (fun _ _ _ h => h) rfl rfl rfl (Y_extract rfl rfl) ?_
    refine GA_y 5 rfl (by kernel_rfl) (by kernel_rfl) (by kernel_rfl) (fun _ _ _ h => h) rfl rfl rfl (Y_extract rfl rfl) ?_
    refine GA_one 7 (by kernel_rfl) ?_
    refine GO_s rfl rfl rfl (S_all rfl rfl ag37 (by rfl) (by rfl) (by repeat (first | exact .head | apply Rem.tail)) (by rfl)) ?_
    refine GA_y 8 rfl (by kernel_rfl) (by kernel_rfl) (by kernel_rfl) (fun _ _ _ h => h) rfl rfl rfl (Y_assign rfl) ?_
    refine GA_done (by kernel_rfl) ?_
    (repeat (first | (with_reducible refine R_seq ?_) | (with_reducible refine R_block_normal ?_)))
    (repeat (with_reducible refine G_seq ?_))
    refine G_region ?_
    refine GL_y rfl rfl (Y_loadA rfl (by repeat (first | exact .head _ | apply List.Mem.tail)) ag37 (by rfl)) ?_
    refine GL_call rfl rfl rfl rfl Try.call45 .nil (fun w hw => freeze_v (mod_w _) (neg_law hx)) ?_
    rintro _ _ ⟨rfl, rfl⟩
    refine GL_s rfl (S_all rfl rfl ag37 (by rfl) (by rfl) (by repeat (first | exact .head | apply Rem.tail)) (by rfl)) ?_
    refine GL_nil ?_
    (repeat (first | (with_reducible refine R_seq ?_) | (with_reducible refine R_block_normal ?_)))
    (repeat (with_reducible refine G_seq ?_))
    refine G_ret ?_
    (repeat (first | (with_reducible refine R_then_ret ?_) | (with_reducible refine R_block_ret ?_)))
    refine R_ret (.ag rfl (by repeat (first | exact .head _ | apply List.Mem.tail)) (by exact ag37) .nil) [] .nil ⟨rfl, rfl⟩
end Go.Proofs.Ytefphcpaakhfbaa

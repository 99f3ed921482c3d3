/-
  mul.
-/
import Derived.Test.YtefphcpaakhfbaaFO
namespace Go.Proofs.Ytefphcpaakhfbaa
open Go Go.Sl Go.RowKit Go.Fp

theorem ag62 : TAgg Try.prog 62 8 := ⟨_, Try.underlying62, rfl, by kernel_rfl⟩
theorem ar62 : TArr Try.prog 62 8 35 1 := ⟨Try.underlying62, by kernel_rfl⟩
theorem zr62 : TZero Try.prog 62 ([(.int .u64 0), (.int .u64 0), (.int .u64 0), (.int .u64 0), (.int .u64 0), (.int .u64 0), (.int .u64 0), (.int .u64 0)]) := by unfold TZero; kernel_rfl
theorem zero8 : ([wv 0, wv 0, wv 0, wv 0, wv 0, wv 0, wv 0, wv 0] : List Value) = W (List.replicate ((wds 0).length + (wds 0).length) 0) := rfl
theorem lp4 {ws : List Nat} (h : ws.length = 8) : ((W ws).drop 0).take (W (ws.take 4)).length = W (ws.take 4) := by
  simp [W, h, List.map_take]
theorem tagg4 {ws : List Nat} (h : ws.length = 8) : TAgg Try.prog 37 (W (ws.take 4)).length := by
  have e : (W (ws.take 4)).length = 4 := by simp [W, h]
  rw [e]
  exact ag37
structure MI where
  i : Nat
  ws : List Nat
structure MK where
  k : Nat
  c : Nat
  ws : List Nat
theorem wds_get? {x i : Nat} (h : i < 4) : (wds x)[i]? = some (wd x i) := by
  match i, h with
  | 0, _ => rfl
  | 1, _ => rfl
  | 2, _ => rfl
  | 3, _ => rfl
set_option maxHeartbeats 4000000 in
theorem mul_is {x y : Nat} {w : World} (hx : x < w256) (hy : y < w256) : FnAt Try.prog 27 [.agg (elV x).toArray, .agg (elV y).toArray] [] w (Ret fun r N => r = .agg (elV (x * y % P)).toArray ∧ N = []) := by
  refine FnAt.intro Try.func27 rfl Try.ntmps27 rfl _ rfl ?_
  (repeat (with_reducible refine G_seq ?_))
  refine G_region ?_
  refine GL_w rfl rfl (W_boxA rfl fun b2 => ?_)
  refine GL_w rfl rfl (W_boxA rfl fun b3 => ?_)
  refine GL_w rfl rfl (W_alloc zr37 fun b4 => ?_)
  refine GL_nil ?_
  (repeat (first | (with_reducible refine R_seq ?_) | (with_reducible refine R_block_normal ?_)))
  (repeat (with_reducible refine G_seq ?_))
  refine G_region ?_
  refine GL_w rfl rfl (W_alloc zr62 fun b5 => ?_)
  refine GL_nil ?_
  (repeat (first | (with_reducible refine R_seq ?_) | (with_reducible refine R_block_normal ?_)))
  refine G_blk zero8 ?_
  (repeat (with_reducible refine G_seq ?_))
  refine G_region ?_
  refine GL_y rfl rfl (Y_loadA rfl (by repeat (first | exact .head _ | apply List.Mem.tail)) ag37 (by rfl)) ?_
  refine GL_y rfl rfl (Y_move rfl) ?_
  refine GL_nil ?_
  (repeat (first | (with_reducible refine R_seq ?_) | (with_reducible refine R_block_normal ?_)))
  (repeat (with_reducible refine G_seq ?_))
  refine G_block ?_
  (repeat (with_reducible refine G_seq ?_))
  refine G_loop (ι := MI) (fun p => 4 - p.i) (fun p => MO (wds x) (wds y) p.i p.ws) (fun p => [(3, .pointer (some ⟨b3, 0, none⟩)), (4, .pointer (some ⟨b4, 0, none⟩)), (5, .pointer (some ⟨b5, 0, none⟩)), (20, .agg (elV x).toArray), (21, .int .i64 (p.i : Int))]) (fun p => [⟨b5, 62, 8, W p.ws, (0, 0)⟩, ⟨b3, 37, 4, elV y, (0, 0)⟩, ⟨b4, 37, 4, [wv 0, wv 0, wv 0, wv 0], (0, 0)⟩]) ⟨0, List.replicate ((wds 0).length + (wds 0).length) 0⟩ ?_ (⟨by first | rfl | decide, by first | rfl | decide, by first | rfl | decide, by first | rfl | decide, by first | rfl | decide, trivial⟩) (by repeat (first | exact .nil | exact Pick.rfl' _ | exact Pick.skip (Pick.rfl' _) | exact Pick.skip (Pick.skip (Pick.rfl' _)) | (apply Pick.cons; focus (repeat (first | exact .head | apply Rem.tail))))) ?_
  · exact MO.start (wds x) (wds y)
  intro p hp
  (repeat (with_reducible refine G_seq ?_))
  refine G_region ?_
  refine GL_y rfl rfl (Y_lssN (b := 4) rfl rfl) ?_
  refine GL_nil ?_
  (repeat (first | (with_reducible refine R_seq ?_) | (with_reducible refine R_block_normal ?_)))
  (repeat (with_reducible refine G_seq ?_))
  refine G_cond_dec rfl (fun ht22 => ?_) (fun ht22 => ?_)
  · -- yes
    (repeat (with_reducible refine G_seq ?_))
    refine G_skip ?_
    (repeat (first | (with_reducible refine R_seq ?_) | (with_reducible refine R_block_normal ?_)))
    (repeat (with_reducible refine G_seq ?_))
    refine G_block ?_
    have hi : p.i < 4 := ht22
    (repeat (with_reducible refine G_seq ?_))
    refine G_region ?_
    refine GL_y rfl rfl (Y_move rfl) ?_
    refine GL_y rfl rfl (Y_index ar37 sc35 rfl rfl (by omega) (elV_nth hi)) ?_
    refine GL_y rfl rfl (Y_assign rfl) ?_
    refine GL_y rfl rfl (Y_assign rfl) ?_
    refine GL_nil ?_
    (repeat (first | (with_reducible refine R_seq ?_) | (with_reducible refine R_block_normal ?_)))
    (repeat (with_reducible refine G_seq ?_))
    refine G_region ?_
    refine GL_y rfl rfl (Y_assign rfl) ?_
    refine GL_nil ?_
    (repeat (first | (with_reducible refine R_seq ?_) | (with_reducible refine R_block_normal ?_)))
    (repeat (with_reducible refine G_seq ?_))
    refine G_region ?_
    refine GL_y rfl rfl (Y_loadA rfl (by repeat (first | exact .head _ | apply List.Mem.tail)) ag37 (by rfl)) ?_
    refine GL_y rfl rfl (Y_move rfl) ?_
    refine GL_nil ?_
    (repeat (first | (with_reducible refine R_seq ?_) | (with_reducible refine R_block_normal ?_)))
    (repeat (with_reducible refine G_seq ?_))
    refine G_block ?_
    (repeat (with_reducible refine G_seq ?_))
    refine G_loop (ι := MK) (fun q => 4 - q.k) (fun q => MN (wds x) (wds y) p.i (wd x p.i) q.k q.c q.ws) (fun q => [(3, .pointer (some ⟨b3, 0, none⟩)), (4, .pointer (some ⟨b4, 0, none⟩)), (5, .pointer (some ⟨b5, 0, none⟩)), (6, .int .i64 (p.i : Int)), (7, wv (wd x p.i)), (8, wv q.c), (20, .agg (elV x).toArray), (21, .int .i64 (p.i : Int)), (25, .agg (elV y).toArray), (26, .int .i64 (q.k : Int))]) (fun q => [⟨b5, 62, 8, W q.ws, (0, 0)⟩, ⟨b3, 37, 4, elV y, (0, 0)⟩, ⟨b4, 37, 4, [wv 0, wv 0, wv 0, wv 0], (0, 0)⟩]) ⟨0, 0, p.ws⟩ ?_ (⟨by first | rfl | decide, by first | rfl | decide, by first | rfl | decide, by first | rfl | decide, by first | rfl | decide, by first | rfl | decide, by first | rfl | decide, by first | rfl | decide, by first | rfl | decide, by first | rfl | decide, trivial⟩) (by repeat (first | exact .nil | exact Pick.rfl' _ | exact Pick.skip (Pick.rfl' _) | exact Pick.skip (Pick.skip (Pick.rfl' _)) | (apply Pick.cons; focus (repeat (first | exact .head | apply Rem.tail))))) ?_
    · exact hp.row (wds_get? hi)
    intro q hq
    (repeat (with_reducible refine G_seq ?_))
    refine G_region ?_
    refine GL_y rfl rfl (Y_lssN (b := 4) rfl rfl) ?_
    refine GL_nil ?_
    (repeat (first | (with_reducible refine R_seq ?_) | (with_reducible refine R_block_normal ?_)))
    (repeat (with_reducible refine G_seq ?_))
    refine G_cond_dec rfl (fun ht27 => ?_) (fun ht27 => ?_)
    · -- yes
      (repeat (with_reducible refine G_seq ?_))
      refine G_skip ?_
      (repeat (first | (with_reducible refine R_seq ?_) | (with_reducible refine R_block_normal ?_)))
      (repeat (with_reducible refine G_seq ?_))
      refine G_block ?_
      have hk : q.k < 4 := ht27
      obtain ⟨s, hs, hs64⟩ := hq.get (show q.k < (wds y).length from hk)
      (repeat (with_reducible refine G_seq ?_))
      refine G_region ?_
      refine GL_y rfl rfl (Y_move rfl) ?_
      refine GL_y rfl rfl (Y_index ar37 sc35 rfl rfl (by omega) (elV_nth hk)) ?_
      refine GL_y rfl rfl (Y_assign rfl) ?_
      refine GL_y rfl rfl (Y_assign rfl) ?_
      refine GL_nil ?_
      (repeat (first | (with_reducible refine R_seq ?_) | (with_reducible refine R_block_normal ?_)))
      (repeat (with_reducible refine G_seq ?_))
      refine G_region ?_
      refine GL_y rfl rfl (Y_move rfl) ?_
      refine GL_y rfl rfl (Y_move rfl) ?_
      refine GL_call rfl rfl rfl rfl Try.call46 .nil (fun w hw => mul64_is (wd_lt x p.i) (wd_lt y q.k)) ?_
      rintro _ _ ⟨rfl, rfl⟩
      refine GL_y rfl rfl (Y_move rfl) ?_
      refine GL_y rfl rfl (Y_extract rfl rfl) ?_
      refine GL_y rfl rfl (Y_extract rfl rfl) ?_
      refine GL_y rfl rfl (Y_assign rfl) ?_
      refine GL_y rfl rfl (Y_assign rfl) ?_
      refine GL_nil ?_
      (repeat (first | (with_reducible refine R_seq ?_) | (with_reducible refine R_block_normal ?_)))
      (repeat (with_reducible refine G_seq ?_))
      refine G_region ?_
      refine GL_y rfl rfl (Y_assign rfl) ?_
      refine GL_nil ?_
      (repeat (first | (with_reducible refine R_seq ?_) | (with_reducible refine R_block_normal ?_)))
      (repeat (with_reducible refine G_seq ?_))
      refine G_region ?_
      refine GL_y rfl rfl (Y_move rfl) ?_
      refine GL_y rfl rfl (Y_move rfl) ?_
      refine GL_y rfl rfl (Y_move rfl) ?_
      refine GL_y rfl rfl (Y_addN rfl rfl (by omega)) ?_
      refine GL_y rfl rfl (Y_idxA1 ar62 rfl rfl (by omega)) ?_
      refine GL_y rfl rfl (Y_loadS rfl sc35 (by repeat (first | exact .head _ | apply List.Mem.tail)) (nth_W0 hs)) ?_
      refine GL_y rfl rfl (Y_ext rfl rfl (fun w => add64_ac _ _ _ (Nat.zero_le 1) w)) ?_
      refine GL_y rfl rfl (Y_move rfl) ?_
      refine GL_y rfl rfl (Y_extract rfl rfl) ?_
      refine GL_y rfl rfl (Y_extract rfl rfl) ?_
      refine GL_y rfl rfl (Y_assign rfl) ?_
      refine GL_y rfl rfl (Y_assign rfl) ?_
      refine GL_nil ?_
      (repeat (first | (with_reducible refine R_seq ?_) | (with_reducible refine R_block_normal ?_)))
      (repeat (with_reducible refine G_seq ?_))
      refine G_region ?_
      refine GL_y rfl rfl (Y_move rfl) ?_
      refine GL_y rfl rfl (Y_move rfl) ?_
      refine GL_y rfl rfl (Y_addU rfl rfl) ?_
      refine GL_y rfl rfl (Y_assign rfl) ?_
      refine GL_nil ?_
      (repeat (first | (with_reducible refine R_seq ?_) | (with_reducible refine R_block_normal ?_)))
      (repeat (with_reducible refine G_seq ?_))
      refine G_region ?_
      refine GL_y rfl rfl (Y_move rfl) ?_
      refine GL_y rfl rfl (Y_move rfl) ?_
      refine GL_y rfl rfl (Y_ext rfl rfl (fun w => add64_ac _ _ _ (Nat.zero_le 1) w)) ?_
      refine GL_y rfl rfl (Y_move rfl) ?_
      refine GL_y rfl rfl (Y_extract rfl rfl) ?_
      refine GL_y rfl rfl (Y_extract rfl rfl) ?_
      refine GL_y rfl rfl (Y_assign rfl) ?_
      refine GL_y rfl rfl (Y_assign rfl) ?_
      refine GL_nil ?_
      (repeat (first | (with_reducible refine R_seq ?_) | (with_reducible refine R_block_normal ?_)))
      (repeat (with_reducible refine G_seq ?_))
      refine G_region ?_
      refine GL_y rfl rfl (Y_move rfl) ?_
      refine GL_y rfl rfl (Y_move rfl) ?_
      refine GL_y rfl rfl (Y_addN rfl rfl (by omega)) ?_
      refine GL_y rfl rfl (Y_move rfl) ?_
      refine GL_y rfl rfl (Y_move rfl) ?_
      refine GL_y rfl rfl (Y_move rfl) ?_
      refine GL_y rfl rfl (Y_addU rfl rfl) ?_
      refine GL_y rfl rfl (Y_idxA1 ar62 rfl rfl (by omega)) ?_
      refine GL_s rfl (S_sc rfl sc35 rfl rfl (by repeat (first | exact .head | apply Rem.tail)) (setL_W0 (by have h : q.ws.length = 8 := hq.hl; omega) _)) ?_
      refine GL_y rfl rfl (Y_assign rfl) ?_
      refine GL_nil ?_
      (repeat (first | (with_reducible refine R_seq ?_) | (with_reducible refine R_block_normal ?_)))
      (repeat (with_reducible refine G_seq ?_))
      refine G_region ?_
      refine GL_y rfl rfl (Y_addN (b := 1) rfl rfl (by first | omega | decide)) ?_
      refine GL_y rfl rfl (Y_move rfl) ?_
      refine GL_nil ?_
      (repeat (first | (with_reducible refine R_seq ?_) | (with_reducible refine R_block_normal ?_)))
      (repeat (with_reducible refine R_block_normal ?_))
      refine R_fam ⟨q.k + 1, ((wd x p.i * wd y q.k / w64 + acc (wd x p.i * wd y q.k % w64) s 0) % w64 + acc (acw (wd x p.i * wd y q.k % w64) s 0) q.c 0) % w64, q.ws.set (p.i + q.k) (acw (acw (wd x p.i * wd y q.k % w64) s 0) q.c 0)⟩ ?_ (⟨by first | rfl | decide, by first | rfl | decide, by first | rfl | decide, by first | rfl | decide, by first | rfl | decide, by first | rfl | decide, by first | rfl | decide, by first | rfl | decide, by first | rfl | decide, by first | rfl | decide, trivial⟩) (by repeat (first | exact .nil | exact Pick.rfl' _ | exact Pick.skip (Pick.rfl' _) | exact Pick.skip (Pick.skip (Pick.rfl' _)) | (apply Pick.cons; focus (repeat (first | exact .head | apply Rem.tail)))))
      obtain ⟨k1, k2, k3⟩ := row_step (wd_lt x p.i) (wd_lt y q.k) hs64 hq.hc rfl rfl rfl rfl rfl rfl
      exact ⟨hq.step (wds_get? hk) hs k1 k2 k3, by simp only; omega⟩
    · -- no
      (repeat (with_reducible refine G_seq ?_))
      refine G_exit ?_
      (repeat (first | (with_reducible refine R_then_exit ?_) | (with_reducible refine R_block_exit ?_) | (with_reducible refine R_block_other (by decide) ?_)))
      (repeat (first | (with_reducible refine R_seq ?_) | (with_reducible refine R_block_normal ?_)))
      have hk4 : q.k = 4 := by have h : ¬ q.k < 4 := ht27; have h2 : q.k ≤ 4 := hq.hk; omega
      obtain ⟨k, c, ws⟩ := q
      simp only at hk4
      subst hk4
      have hq : MN (wds x) (wds y) p.i (wd x p.i) 4 c ws := hq
      (repeat (with_reducible refine G_seq ?_))
      refine G_region ?_
      refine GL_y rfl rfl (Y_move rfl) ?_
      refine GL_y rfl rfl (Y_addN (b := 4) rfl rfl (by omega)) ?_
      refine GL_y rfl rfl (Y_move rfl) ?_
      refine GL_y rfl rfl (Y_idxA1 ar62 rfl rfl (by omega)) ?_
      refine GL_s rfl (S_sc rfl sc35 rfl rfl (by repeat (first | exact .head | apply Rem.tail)) (setL_W0 (show p.i + 4 < ws.length by have h : ws.length = 8 := hq.hl; omega) _)) ?_
      refine GL_nil ?_
      (repeat (first | (with_reducible refine R_seq ?_) | (with_reducible refine R_block_normal ?_)))
      (repeat (with_reducible refine G_seq ?_))
      refine G_region ?_
      refine GL_y rfl rfl (Y_addN (b := 1) rfl rfl (by first | omega | decide)) ?_
      refine GL_y rfl rfl (Y_move rfl) ?_
      refine GL_nil ?_
      (repeat (first | (with_reducible refine R_seq ?_) | (with_reducible refine R_block_normal ?_)))
      (repeat (with_reducible refine R_block_normal ?_))
      refine R_fam ⟨p.i + 1, ws.set (p.i + 4) c⟩ ?_ (⟨by first | rfl | decide, by first | rfl | decide, by first | rfl | decide, by first | rfl | decide, by first | rfl | decide, trivial⟩) (by repeat (first | exact .nil | exact Pick.rfl' _ | exact Pick.skip (Pick.rfl' _) | exact Pick.skip (Pick.skip (Pick.rfl' _)) | (apply Pick.cons; focus (repeat (first | exact .head | apply Rem.tail)))))
      exact ⟨hq.done (wds_get? hi), by simp only; omega⟩
  · -- no
    (repeat (with_reducible refine G_seq ?_))
    refine G_exit ?_
    (repeat (first | (with_reducible refine R_then_exit ?_) | (with_reducible refine R_block_exit ?_) | (with_reducible refine R_block_other (by decide) ?_)))
    (repeat (first | (with_reducible refine R_seq ?_) | (with_reducible refine R_block_normal ?_)))
    have hi4 : p.i = 4 := by have h : ¬ p.i < 4 := ht22; have h2 : p.i ≤ 4 := hp.hi; omega
    obtain ⟨i, ws⟩ := p
    simp only at hi4
    subst hi4
    have hp : MO (wds x) (wds y) 4 ws := hp
    have hl8 : ws.length = 8 := hp.hl
    (repeat (with_reducible refine G_seq ?_))
    refine G_region ?_
    refine GL_y rfl rfl (Y_slAh ar62 rfl rfl (by first | omega | decide)) ?_
    refine GL_y rfl rfl (Y_s2a Try.underlying37 rfl (by decide)) ?_
    refine GL_y rfl rfl (Y_loadP (W (ws.take 4)) rfl (by repeat (first | exact .head _ | apply List.Mem.tail)) (lp4 hl8) (tagg4 hl8)) ?_
    refine GL_w rfl rfl (W_alloc zr37 fun b14 => ?_)
    refine GL_s rfl (S_all rfl rfl ag37 (by simp [W, hl8]) (all_W _) (by repeat (first | exact .head | apply Rem.tail)) (by rfl)) ?_
    refine GL_nil ?_
    (repeat (first | (with_reducible refine R_seq ?_) | (with_reducible refine R_block_normal ?_)))
    (repeat (with_reducible refine G_seq ?_))
    refine G_region ?_
    refine GL_y rfl rfl (Y_assign rfl) ?_
    refine GL_nil ?_
    (repeat (first | (with_reducible refine R_seq ?_) | (with_reducible refine R_block_normal ?_)))
    (repeat (with_reducible refine G_seq ?_))
    refine G_region ?_
    refine GL_y rfl rfl (Y_move rfl) ?_
    refine GL_nil ?_
    (repeat (first | (with_reducible refine R_seq ?_) | (with_reducible refine R_block_normal ?_)))
    (repeat (with_reducible refine G_seq ?_))
    refine G_block ?_
    (repeat (with_reducible refine G_seq ?_))
    refine G_loop (ι := MK) (fun q => 4 - q.k) (fun q => MH ws q.k q.c q.ws) (fun q => [(4, .pointer (some ⟨b4, 0, none⟩)), (5, .pointer (some ⟨b5, 0, none⟩)), (14, .pointer (some ⟨b14, 0, none⟩)), (15, wv q.c), (72, .int .i64 (q.k : Int))]) (fun q => [⟨b14, 37, 4, W q.ws, (0, 0)⟩, ⟨b5, 62, 8, W ws, (0, 0)⟩, ⟨b4, 37, 4, [wv 0, wv 0, wv 0, wv 0], (0, 0)⟩]) ⟨0, 0, ws.take 4⟩ ?_ (⟨by first | rfl | decide, by first | rfl | decide, by first | rfl | decide, by first | rfl | decide, by first | rfl | decide, trivial⟩) (by repeat (first | exact .nil | exact Pick.rfl' _ | exact Pick.skip (Pick.rfl' _) | exact Pick.skip (Pick.skip (Pick.rfl' _)) | (apply Pick.cons; focus (repeat (first | exact .head | apply Rem.tail))))) ?_
    · exact MH.start hl8 hp.hw
    intro q hq
    (repeat (with_reducible refine G_seq ?_))
    refine G_region ?_
    refine GL_y rfl rfl (Y_lssN (b := 4) rfl rfl) ?_
    refine GL_nil ?_
    (repeat (first | (with_reducible refine R_seq ?_) | (with_reducible refine R_block_normal ?_)))
    (repeat (with_reducible refine G_seq ?_))
    refine G_cond_dec rfl (fun ht73 => ?_) (fun ht73 => ?_)
    · -- yes
      (repeat (with_reducible refine G_seq ?_))
      refine G_skip ?_
      (repeat (first | (with_reducible refine R_seq ?_) | (with_reducible refine R_block_normal ?_)))
      (repeat (with_reducible refine G_seq ?_))
      refine G_block ?_
      have hj : q.k < 4 := ht73
      obtain ⟨n, hn⟩ : ∃ n, ws[4 + q.k]? = some n := ⟨_, List.getElem?_eq_getElem (by omega)⟩
      have hn64 := mem_get hp.hw hn
      obtain ⟨s, hs, hs64⟩ := hq.get hj
      (repeat (with_reducible refine G_seq ?_))
      refine G_region ?_
      refine GL_y rfl rfl (Y_move rfl) ?_
      refine GL_y rfl rfl (Y_assign rfl) ?_
      refine GL_nil ?_
      (repeat (first | (with_reducible refine R_seq ?_) | (with_reducible refine R_block_normal ?_)))
      (repeat (with_reducible refine G_seq ?_))
      refine G_region ?_
      refine GL_y rfl rfl (Y_move rfl) ?_
      refine GL_y rfl rfl (Y_addN (a := 4) rfl rfl (by omega)) ?_
      refine GL_y rfl rfl (Y_idxA1 ar62 rfl rfl (by omega)) ?_
      refine GL_y rfl rfl (Y_loadS rfl sc35 (by repeat (first | exact .head _ | apply List.Mem.tail)) (nth_W0 hn)) ?_
      refine GL_call rfl rfl rfl rfl Try.call46 .nil (fun w hw => mul64_is hn64 (by decide)) ?_
      rintro _ _ ⟨rfl, rfl⟩
      refine GL_y rfl rfl (Y_move rfl) ?_
      refine GL_y rfl rfl (Y_extract rfl rfl) ?_
      refine GL_y rfl rfl (Y_extract rfl rfl) ?_
      refine GL_y rfl rfl (Y_assign rfl) ?_
      refine GL_y rfl rfl (Y_assign rfl) ?_
      refine GL_nil ?_
      (repeat (first | (with_reducible refine R_seq ?_) | (with_reducible refine R_block_normal ?_)))
      (repeat (with_reducible refine G_seq ?_))
      refine G_region ?_
      refine GL_y rfl rfl (Y_assign rfl) ?_
      refine GL_nil ?_
      (repeat (first | (with_reducible refine R_seq ?_) | (with_reducible refine R_block_normal ?_)))
      (repeat (with_reducible refine G_seq ?_))
      refine G_region ?_
      refine GL_y rfl rfl (Y_move rfl) ?_
      refine GL_y rfl rfl (Y_move rfl) ?_
      refine GL_y rfl rfl (Y_ext rfl rfl (fun w => add64_ac _ _ _ (Nat.zero_le 1) w)) ?_
      refine GL_y rfl rfl (Y_move rfl) ?_
      refine GL_y rfl rfl (Y_extract rfl rfl) ?_
      refine GL_y rfl rfl (Y_extract rfl rfl) ?_
      refine GL_y rfl rfl (Y_assign rfl) ?_
      refine GL_y rfl rfl (Y_assign rfl) ?_
      refine GL_nil ?_
      (repeat (first | (with_reducible refine R_seq ?_) | (with_reducible refine R_block_normal ?_)))
      (repeat (with_reducible refine G_seq ?_))
      refine G_region ?_
      refine GL_y rfl rfl (Y_move rfl) ?_
      refine GL_y rfl rfl (Y_move rfl) ?_
      refine GL_y rfl rfl (Y_addU rfl rfl) ?_
      refine GL_y rfl rfl (Y_assign rfl) ?_
      refine GL_nil ?_
      (repeat (first | (with_reducible refine R_seq ?_) | (with_reducible refine R_block_normal ?_)))
      (repeat (with_reducible refine G_seq ?_))
      refine G_region ?_
      refine GL_y rfl rfl (Y_move rfl) ?_
      refine GL_y rfl rfl (Y_move rfl) ?_
      refine GL_y rfl rfl (Y_idxA1 ar37 rfl rfl (by omega)) ?_
      refine GL_y rfl rfl (Y_loadS rfl sc35 (by repeat (first | exact .head _ | apply List.Mem.tail)) (nth_W0 hs)) ?_
      refine GL_y rfl rfl (Y_move rfl) ?_
      refine GL_y rfl rfl (Y_ext rfl rfl (fun w => add64_ac _ _ _ (Nat.zero_le 1) w)) ?_
      refine GL_y rfl rfl (Y_move rfl) ?_
      refine GL_y rfl rfl (Y_extract rfl rfl) ?_
      refine GL_y rfl rfl (Y_extract rfl rfl) ?_
      refine GL_y rfl rfl (Y_idxA1 ar37 rfl rfl (by omega)) ?_
      refine GL_s rfl (S_sc rfl sc35 rfl rfl (by repeat (first | exact .head | apply Rem.tail)) (setL_W0 (by have h := hq.hl; omega) _)) ?_
      refine GL_y rfl rfl (Y_assign rfl) ?_
      refine GL_nil ?_
      (repeat (first | (with_reducible refine R_seq ?_) | (with_reducible refine R_block_normal ?_)))
      (repeat (with_reducible refine G_seq ?_))
      refine G_region ?_
      refine GL_y rfl rfl (Y_move rfl) ?_
      refine GL_y rfl rfl (Y_move rfl) ?_
      refine GL_y rfl rfl (Y_addU rfl rfl) ?_
      refine GL_y rfl rfl (Y_assign rfl) ?_
      refine GL_nil ?_
      (repeat (first | (with_reducible refine R_seq ?_) | (with_reducible refine R_block_normal ?_)))
      (repeat (with_reducible refine G_seq ?_))
      refine G_region ?_
      refine GL_y rfl rfl (Y_addN (b := 1) rfl rfl (by first | omega | decide)) ?_
      refine GL_y rfl rfl (Y_move rfl) ?_
      refine GL_nil ?_
      (repeat (first | (with_reducible refine R_seq ?_) | (with_reducible refine R_block_normal ?_)))
      (repeat (with_reducible refine R_block_normal ?_))
      refine R_fam ⟨q.k + 1, ((n * 38 / w64 + acc (n * 38 % w64) q.c 0) % w64 + acc s (acw (n * 38 % w64) q.c 0) 0) % w64, q.ws.set q.k (acw s (acw (n * 38 % w64) q.c 0) 0)⟩ ?_ (⟨by first | rfl | decide, by first | rfl | decide, by first | rfl | decide, by first | rfl | decide, by first | rfl | decide, trivial⟩) (by repeat (first | exact .nil | exact Pick.rfl' _ | exact Pick.skip (Pick.rfl' _) | exact Pick.skip (Pick.skip (Pick.rfl' _)) | (apply Pick.cons; focus (repeat (first | exact .head | apply Rem.tail)))))
      obtain ⟨k1, k2, k3⟩ := half_step hn64 hs64 hq.hc rfl rfl rfl rfl rfl rfl
      exact ⟨hq.step hj hn hs k1 k2 k3, by simp only; omega⟩
    · -- no
      (repeat (with_reducible refine G_seq ?_))
      refine G_exit ?_
      (repeat (first | (with_reducible refine R_then_exit ?_) | (with_reducible refine R_block_exit ?_) | (with_reducible refine R_block_other (by decide) ?_)))
      (repeat (first | (with_reducible refine R_seq ?_) | (with_reducible refine R_block_normal ?_)))
      have hk4 : q.k = 4 := by have h : ¬ q.k < 4 := ht73; have h2 := hq.hj; omega
      obtain ⟨k, c, os⟩ := q
      simp only at hk4
      subst hk4
      have hq : MH ws 4 c os := hq
      (repeat (with_reducible refine G_seq ?_))
      refine G_region ?_
      refine GL_y rfl rfl (Y_loadA rfl (by repeat (first | exact .head _ | apply List.Mem.tail)) ag37 (by rw [W_len]; exact hq.hl)) ?_
      refine GL_y rfl rfl (Y_move rfl) ?_
      refine GL_call rfl rfl rfl rfl Try.call44 .nil (fun w hw => fold_l hq.hl hq.hw hq.hc (mul_end hx hy hp hq)) ?_
      rintro _ _ ⟨rfl, rfl⟩
      refine GL_s rfl (S_all rfl rfl ag37 (by rfl) (by rfl) (by repeat (first | exact .head | apply Rem.tail)) (by rfl)) ?_
      refine GL_nil ?_
      (repeat (first | (with_reducible refine R_seq ?_) | (with_reducible refine R_block_normal ?_)))
      (repeat (with_reducible refine G_seq ?_))
      refine G_ret ?_
      (repeat (first | (with_reducible refine R_then_ret ?_) | (with_reducible refine R_block_ret ?_)))
      refine R_ret (.ag rfl (by repeat (first | exact .head _ | apply List.Mem.tail)) (by exact ag37) .nil) [] .nil ⟨rfl, rfl⟩
end Go.Proofs.Ytefphcpaakhfbaa

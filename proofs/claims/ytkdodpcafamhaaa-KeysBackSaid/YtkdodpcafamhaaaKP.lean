/-
  The laws KeysParse, KeysBack.
-/
import Derived.Test.YtkdodpcafamhaaaKP1
namespace Go.Proofs.Ytkdodpcafamhaaa
open Go Go.Sl Go.RowKit

set_option maxHeartbeats 4000000 in
theorem kparse_long {ao : Option Addr} {c : Nat} {bs : List UInt8} {w : World} (hl : 1000 < bs.length) : FnAt Try.prog 6 [.slice ao bs.length c] [] w (Ret fun v N => v = .bool true ∧ N = []) := by
  refine FnAt.intro Try.func6 rfl Try.ntmps6 rfl _ rfl ?_
  (repeat (with_reducible refine G_seq ?_))
  refine G_region ?_
  refine GL_y rfl rfl (Y_assign rfl) ?_
  refine GL_nil ?_
  (repeat (first | (with_reducible refine R_seq ?_) | (with_reducible refine R_block_normal ?_)))
  (repeat (with_reducible refine G_seq ?_))
  refine G_region ?_
  refine GL_y rfl rfl (Y_move rfl) ?_
  refine GL_y rfl rfl (Y_len sl24 rfl) ?_
  refine GL_y rfl rfl (Y_gtrN (b := 1000) rfl rfl) ?_
  refine GL_nil ?_
  (repeat (first | (with_reducible refine R_seq ?_) | (with_reducible refine R_block_normal ?_)))
  (repeat (with_reducible refine G_seq ?_))
  refine G_cond_t rfl (by simp; omega) ?_
  (repeat (with_reducible refine G_seq ?_))
  refine G_region ?_
  refine GL_y rfl rfl (Y_assign rfl) ?_
  refine GL_nil ?_
  (repeat (first | (with_reducible refine R_seq ?_) | (with_reducible refine R_block_normal ?_)))
  (repeat (with_reducible refine G_seq ?_))
  refine G_ret ?_
  (repeat (first | (with_reducible refine R_then_ret ?_) | (with_reducible refine R_block_ret ?_)))
  refine R_ret (.tmp rfl .nil) [] .nil ⟨rfl, rfl⟩
set_option maxHeartbeats 4000000 in
theorem kparse_no {ao : Option Addr} {c : Nat} {bs : List UInt8} {w : World} (hs : SlAt w ao (B bs)) (hc : bs.length ≤ c) (hl : bs.length ≤ 1000) (h : okB bs = false) : FnAt Try.prog 6 [.slice ao bs.length c] [] w (Ret fun v N => v = .bool true ∧ N = []) := by
  refine FnAt.intro Try.func6 rfl Try.ntmps6 rfl _ rfl ?_
  (repeat (with_reducible refine G_seq ?_))
  refine G_region ?_
  refine GL_y rfl rfl (Y_assign rfl) ?_
  refine GL_nil ?_
  (repeat (first | (with_reducible refine R_seq ?_) | (with_reducible refine R_block_normal ?_)))
  (repeat (with_reducible refine G_seq ?_))
  refine G_region ?_
  refine GL_y rfl rfl (Y_move rfl) ?_
  refine GL_y rfl rfl (Y_len sl24 rfl) ?_
  refine GL_y rfl rfl (Y_gtrN (b := 1000) rfl rfl) ?_
  refine GL_nil ?_
  (repeat (first | (with_reducible refine R_seq ?_) | (with_reducible refine R_block_normal ?_)))
  (repeat (with_reducible refine G_seq ?_))
  refine G_cond_f rfl (by simp; omega) ?_
  (repeat (with_reducible refine G_seq ?_))
  refine G_skip ?_
  (repeat (first | (with_reducible refine R_seq ?_) | (with_reducible refine R_block_normal ?_)))
  (repeat (with_reducible refine G_seq ?_))
  refine G_region ?_
  refine GL_y rfl rfl (Y_move rfl) ?_
  refine GL_call rfl rfl rfl rfl Try.call17 .nil (fun w hw => parse_no (hs.keep hw (by simp)) hc hl h) ?_
  rintro _ _ ⟨rfl, rfl⟩
  refine GL_y rfl rfl (Y_move rfl) ?_
  refine GL_y rfl rfl (Y_extract rfl rfl) ?_
  refine GL_y rfl rfl (Y_extract rfl rfl) ?_
  refine GL_y rfl rfl (Y_assign rfl) ?_
  refine GL_y rfl rfl (Y_assign rfl) ?_
  refine GL_nil ?_
  (repeat (first | (with_reducible refine R_seq ?_) | (with_reducible refine R_block_normal ?_)))
  (repeat (with_reducible refine G_seq ?_))
  refine G_region ?_
  refine GL_y rfl rfl (Y_move rfl) ?_
  refine GL_call rfl rfl rfl rfl Try.call18 .nil (fun w hw => refParse_no (hs.keep hw (by simp)) hc hl h) ?_
  rintro _ _ ⟨rfl, rfl⟩
  refine GL_y rfl rfl (Y_move rfl) ?_
  refine GL_y rfl rfl (Y_extract rfl rfl) ?_
  refine GL_y rfl rfl (Y_extract rfl rfl) ?_
  refine GL_y rfl rfl (Y_assign rfl) ?_
  refine GL_y rfl rfl (Y_assign rfl) ?_
  refine GL_nil ?_
  (repeat (first | (with_reducible refine R_seq ?_) | (with_reducible refine R_block_normal ?_)))
  (repeat (with_reducible refine G_seq ?_))
  refine G_region ?_
  refine GL_y rfl rfl (Y_move rfl) ?_
  refine GL_y rfl rfl (Y_not rfl) ?_
  refine GL_nil ?_
  (repeat (first | (with_reducible refine R_seq ?_) | (with_reducible refine R_block_normal ?_)))
  (repeat (with_reducible refine G_seq ?_))
  refine G_cond_t rfl (by first | rfl | decide | (simp; done) | (simp; omega)) ?_
  (repeat (with_reducible refine G_seq ?_))
  refine G_region ?_
  refine GL_call rfl rfl rfl rfl Try.call14 .nil (fun w hw => awake_is) ?_
  rintro _ _ ⟨rfl, rfl⟩
  refine GL_y rfl rfl (Y_move rfl) ?_
  refine GL_y rfl rfl (Y_move rfl) ?_
  refine GL_y rfl rfl (Y_iop (v := .bool true) rfl rfl rfl) ?_
  refine GL_y rfl rfl (Y_pick rfl rfl rfl rfl) ?_
  refine GL_y rfl rfl (Y_move rfl) ?_
  refine GL_y rfl rfl (Y_move rfl) ?_
  refine GL_y rfl rfl (Y_len sl22 rfl) ?_
  refine GL_y rfl rfl (Y_iop (v := .bool true) rfl rfl rfl) ?_
  refine GL_y rfl rfl (Y_pick rfl rfl rfl rfl) ?_
  refine GL_y rfl rfl (Y_assign rfl) ?_
  refine GL_nil ?_
  (repeat (first | (with_reducible refine R_seq ?_) | (with_reducible refine R_block_normal ?_)))
  (repeat (with_reducible refine G_seq ?_))
  refine G_ret ?_
  (repeat (first | (with_reducible refine R_then_ret ?_) | (with_reducible refine R_block_ret ?_)))
  refine R_ret (.tmp rfl .nil) [] .nil ⟨rfl, rfl⟩
set_option maxHeartbeats 4000000 in
theorem kparse_ok {ao : Option Addr} {c : Nat} {bs : List UInt8} {w : World} (hs : SlAt w ao (B bs)) (hc : bs.length ≤ c) (hl : bs.length ≤ 1000) (h : okB bs = true) : FnAt Try.prog 6 [.slice ao bs.length c] [] w (Ret fun v N => v = .bool true ∧ N = []) := by
  obtain ⟨ks, hk⟩ : ∃ ks, keysOf 8 (bs.drop 8) = ks := ⟨_, rfl⟩
  have hkl : ks.length ≤ 8 := hk ▸ keysOf_len 8 _
  refine FnAt.intro Try.func6 rfl Try.ntmps6 rfl _ rfl ?_
  (repeat (with_reducible refine G_seq ?_))
  refine G_region ?_
  refine GL_y rfl rfl (Y_assign rfl) ?_
  refine GL_nil ?_
  (repeat (first | (with_reducible refine R_seq ?_) | (with_reducible refine R_block_normal ?_)))
  (repeat (with_reducible refine G_seq ?_))
  refine G_region ?_
  refine GL_y rfl rfl (Y_move rfl) ?_
  refine GL_y rfl rfl (Y_len sl24 rfl) ?_
  refine GL_y rfl rfl (Y_gtrN (b := 1000) rfl rfl) ?_
  refine GL_nil ?_
  (repeat (first | (with_reducible refine R_seq ?_) | (with_reducible refine R_block_normal ?_)))
  (repeat (with_reducible refine G_seq ?_))
  refine G_cond_f rfl (by simp; omega) ?_
  (repeat (with_reducible refine G_seq ?_))
  refine G_skip ?_
  (repeat (first | (with_reducible refine R_seq ?_) | (with_reducible refine R_block_normal ?_)))
  (repeat (with_reducible refine G_seq ?_))
  refine G_region ?_
  refine GL_y rfl rfl (Y_move rfl) ?_
  refine GL_call rfl rfl rfl rfl Try.call17 .nil (fun w hw => parse_ok (hs.keep hw (by simp)) hc hl rfl hk h) ?_
  rintro _ N1 ⟨a1, c1, rfl, hO1⟩
  refine GL_y rfl rfl (Y_move rfl) ?_
  refine GL_y rfl rfl (Y_extract rfl rfl) ?_
  refine GL_y rfl rfl (Y_extract rfl rfl) ?_
  refine GL_y rfl rfl (Y_assign rfl) ?_
  refine GL_y rfl rfl (Y_assign rfl) ?_
  refine GL_nil ?_
  (repeat (first | (with_reducible refine R_seq ?_) | (with_reducible refine R_block_normal ?_)))
  (repeat (with_reducible refine G_seq ?_))
  refine G_region ?_
  refine GL_y rfl rfl (Y_move rfl) ?_
  refine GL_call rfl rfl rfl rfl Try.call18 .nil (fun w hw => refParse_ok (hs.keep hw (by simp)) hc hl hk h) ?_
  rintro _ N2 ⟨a2, c2, rfl, hO2⟩
  refine GL_y rfl rfl (Y_move rfl) ?_
  refine GL_y rfl rfl (Y_extract rfl rfl) ?_
  refine GL_y rfl rfl (Y_extract rfl rfl) ?_
  refine GL_y rfl rfl (Y_assign rfl) ?_
  refine GL_y rfl rfl (Y_assign rfl) ?_
  refine GL_nil ?_
  (repeat (first | (with_reducible refine R_seq ?_) | (with_reducible refine R_block_normal ?_)))
  (repeat (with_reducible refine G_seq ?_))
  refine G_region ?_
  refine GL_y rfl rfl (Y_move rfl) ?_
  refine GL_y rfl rfl (Y_not rfl) ?_
  refine GL_nil ?_
  (repeat (first | (with_reducible refine R_seq ?_) | (with_reducible refine R_block_normal ?_)))
  (repeat (with_reducible refine G_seq ?_))
  refine G_cond_f rfl (by first | rfl | decide | (simp; done) | (simp; omega)) ?_
  (repeat (with_reducible refine G_seq ?_))
  refine G_skip ?_
  (repeat (first | (with_reducible refine R_seq ?_) | (with_reducible refine R_block_normal ?_)))
  (repeat (with_reducible refine G_seq ?_))
  refine G_region ?_
  refine GL_call rfl rfl rfl rfl Try.call14 .nil (fun w hw => awake_is) ?_
  rintro _ _ ⟨rfl, rfl⟩
  refine GL_y rfl rfl (Y_move rfl) ?_
  refine GL_y rfl rfl (Y_move rfl) ?_
  refine GL_y rfl rfl (Y_iop (v := .bool true) rfl rfl rfl) ?_
  refine GL_y rfl rfl (Y_pick rfl rfl rfl rfl) ?_
  refine GL_y rfl rfl (Y_move rfl) ?_
  refine GL_y rfl rfl (Y_move rfl) ?_
  refine GL_y rfl rfl (Y_move rfl) ?_
  refine GL_call rfl rfl rfl rfl Try.call12 .nil (fun w hw => same_is (hO1.sl (show SL _ (N2 ++ (N1 ++ [])) _ _ from hw).right.left) (hO2.sl (show SL _ (N2 ++ (N1 ++ [])) _ _ from hw).left) (by omega)) ?_
  rintro _ _ ⟨rfl, rfl⟩
  refine GL_y rfl rfl (Y_pick rfl rfl rfl rfl) ?_
  refine GL_y rfl rfl (Y_assign rfl) ?_
  refine GL_nil ?_
  (repeat (first | (with_reducible refine R_seq ?_) | (with_reducible refine R_block_normal ?_)))
  (repeat (with_reducible refine G_seq ?_))
  refine G_ret ?_
  (repeat (first | (with_reducible refine R_then_ret ?_) | (with_reducible refine R_block_ret ?_)))
  refine R_ret (.tmp rfl .nil) [] .nil ⟨by simp [pack], rfl⟩
theorem keysParse_is {ao : Option Addr} {c : Nat} {bs : List UInt8} {w : World} (hs : SlAt w ao (B bs)) (hc : bs.length ≤ c) : FnAt Try.prog 6 [.slice ao bs.length c] [] w (Ret fun v N => v = .bool true ∧ N = []) := by
  rcases Nat.lt_or_ge 1000 bs.length with hl | hl
  · exact kparse_long hl
  · cases h : okB bs with
    | false => exact kparse_no hs hc hl h
    | true => exact kparse_ok hs hc hl h
set_option maxHeartbeats 4000000 in
theorem back_long1 {ao ao2 : Option Addr} {c c2 : Nat} {ring : List KeyD} {bs : List UInt8} {w : World} (hl : 100 < ring.length) : FnAt Try.prog 7 [.slice ao ring.length c, .slice ao2 bs.length c2] [] w (Ret fun v N => v = .bool true ∧ N = []) := by
  refine FnAt.intro Try.func7 rfl Try.ntmps7 rfl _ rfl ?_
  (repeat (with_reducible refine G_seq ?_))
  refine G_region ?_
  refine GL_y rfl rfl (Y_assign rfl) ?_
  refine GL_nil ?_
  (repeat (first | (with_reducible refine R_seq ?_) | (with_reducible refine R_block_normal ?_)))
  (repeat (with_reducible refine G_seq ?_))
  refine G_region ?_
  refine GL_y rfl rfl (Y_move rfl) ?_
  refine GL_y rfl rfl (Y_len sl22 rfl) ?_
  refine GL_y rfl rfl (Y_gtrN (b := 100) rfl rfl) ?_
  refine GL_y rfl rfl (Y_move rfl) ?_
  refine GL_bool 16 rfl (fun g16 => ?_) (fun g16 => ?_)
  · -- g16 True
    refine GL_skip rfl rfl ?_
    refine GL_skip rfl rfl ?_
    refine GL_skip rfl rfl ?_
    refine GL_y rfl rfl (Y_pick rfl rfl rfl rfl) ?_
    refine GL_nil ?_
    (repeat (first | (with_reducible refine R_seq ?_) | (with_reducible refine R_block_normal ?_)))
    (repeat (with_reducible refine G_seq ?_))
    refine G_cond_t rfl (by first | rfl | decide | (simp; done) | (simp; omega)) ?_
    (repeat (with_reducible refine G_seq ?_))
    refine G_region ?_
    refine GL_y rfl rfl (Y_assign rfl) ?_
    refine GL_nil ?_
    (repeat (first | (with_reducible refine R_seq ?_) | (with_reducible refine R_block_normal ?_)))
    (repeat (with_reducible refine G_seq ?_))
    refine G_ret ?_
    (repeat (first | (with_reducible refine R_then_ret ?_) | (with_reducible refine R_block_ret ?_)))
    refine R_ret (.tmp rfl .nil) [] .nil ⟨rfl, rfl⟩
  · -- g16 False
    exact absurd g16 (by simp; omega)
set_option maxHeartbeats 4000000 in
theorem back_long2 {ao ao2 : Option Addr} {c c2 : Nat} {ring : List KeyD} {bs : List UInt8} {w : World} (hl : ring.length ≤ 100) (hn : 1000 < bs.length) : FnAt Try.prog 7 [.slice ao ring.length c, .slice ao2 bs.length c2] [] w (Ret fun v N => v = .bool true ∧ N = []) := by
  refine FnAt.intro Try.func7 rfl Try.ntmps7 rfl _ rfl ?_
  (repeat (with_reducible refine G_seq ?_))
  refine G_region ?_
  refine GL_y rfl rfl (Y_assign rfl) ?_
  refine GL_nil ?_
  (repeat (first | (with_reducible refine R_seq ?_) | (with_reducible refine R_block_normal ?_)))
  (repeat (with_reducible refine G_seq ?_))
  refine G_region ?_
  refine GL_y rfl rfl (Y_move rfl) ?_
  refine GL_y rfl rfl (Y_len sl22 rfl) ?_
  refine GL_y rfl rfl (Y_gtrN (b := 100) rfl rfl) ?_
  refine GL_y rfl rfl (Y_move rfl) ?_
  refine GL_bool 16 rfl (fun g16 => ?_) (fun g16 => ?_)
  · -- g16 True
    exact absurd g16 (by simp; omega)
  · -- g16 False
    refine GL_y rfl rfl (Y_move rfl) ?_
    refine GL_y rfl rfl (Y_len sl24 rfl) ?_
    refine GL_y rfl rfl (Y_gtrN (b := 1000) rfl rfl) ?_
    refine GL_y rfl rfl (Y_pick rfl rfl rfl rfl) ?_
    refine GL_nil ?_
    (repeat (first | (with_reducible refine R_seq ?_) | (with_reducible refine R_block_normal ?_)))
    (repeat (with_reducible refine G_seq ?_))
    refine G_cond_t rfl (by simp; omega) ?_
    (repeat (with_reducible refine G_seq ?_))
    refine G_region ?_
    refine GL_y rfl rfl (Y_assign rfl) ?_
    refine GL_nil ?_
    (repeat (first | (with_reducible refine R_seq ?_) | (with_reducible refine R_block_normal ?_)))
    (repeat (with_reducible refine G_seq ?_))
    refine G_ret ?_
    (repeat (first | (with_reducible refine R_then_ret ?_) | (with_reducible refine R_block_ret ?_)))
    refine R_ret (.tmp rfl .nil) [] .nil ⟨rfl, rfl⟩
set_option maxHeartbeats 4000000 in
theorem back_00 {ao ao2 : Option Addr} {c c2 : Nat} {ring : List KeyD} {bs : List UInt8} {w : World} (hs : SlAt w ao (ringL ring)) (hs2 : SlAt w ao2 (B bs)) (hc : bs.length ≤ c2) (hl : ring.length ≤ 100) (hl2 : bs.length ≤ 1000) (hm : mayB ring = false) (h : okB bs = false) : FnAt Try.prog 7 [.slice ao ring.length c, .slice ao2 bs.length c2] [] w (Ret fun v N => v = .bool true ∧ N = []) := by
  refine FnAt.intro Try.func7 rfl Try.ntmps7 rfl _ rfl ?_
  (repeat (with_reducible refine G_seq ?_))
  refine G_region ?_
  refine GL_y rfl rfl (Y_assign rfl) ?_
  refine GL_nil ?_
  (repeat (first | (with_reducible refine R_seq ?_) | (with_reducible refine R_block_normal ?_)))
  (repeat (with_reducible refine G_seq ?_))
  refine G_region ?_
  refine GL_y rfl rfl (Y_move rfl) ?_
  refine GL_y rfl rfl (Y_len sl22 rfl) ?_
  refine GL_y rfl rfl (Y_gtrN (b := 100) rfl rfl) ?_
  refine GL_y rfl rfl (Y_move rfl) ?_
  refine GL_bool 16 rfl (fun g16 => ?_) (fun g16 => ?_)
  · -- g16 True
    exact absurd g16 (by simp; omega)
  · -- g16 False
    refine GL_y rfl rfl (Y_move rfl) ?_
    refine GL_y rfl rfl (Y_len sl24 rfl) ?_
    refine GL_y rfl rfl (Y_gtrN (b := 1000) rfl rfl) ?_
    refine GL_y rfl rfl (Y_pick rfl rfl rfl rfl) ?_
    refine GL_nil ?_
    (repeat (first | (with_reducible refine R_seq ?_) | (with_reducible refine R_block_normal ?_)))
    (repeat (with_reducible refine G_seq ?_))
    refine G_cond_f rfl (by simp; omega) ?_
    (repeat (with_reducible refine G_seq ?_))
    refine G_skip ?_
    (repeat (first | (with_reducible refine R_seq ?_) | (with_reducible refine R_block_normal ?_)))
    (repeat (with_reducible refine G_seq ?_))
    refine G_region ?_
    refine GL_y rfl rfl (Y_move rfl) ?_
    refine GL_call rfl rfl rfl rfl Try.call9 .nil (fun w hw => bytes_bad (hs.keep hw (by simp)) (by omega) hm) ?_
    rintro _ _ ⟨rfl, rfl⟩
    refine GL_y rfl rfl (Y_move rfl) ?_
    refine GL_y rfl rfl (Y_extract rfl rfl) ?_
    refine GL_y rfl rfl (Y_extract rfl rfl) ?_
    refine GL_y rfl rfl (Y_assign rfl) ?_
    refine GL_y rfl rfl (Y_assign rfl) ?_
    refine GL_nil ?_
    (repeat (first | (with_reducible refine R_seq ?_) | (with_reducible refine R_block_normal ?_)))
    (repeat (with_reducible refine G_seq ?_))
    refine G_region ?_
    refine GL_y rfl rfl (Y_move rfl) ?_
    refine GL_y rfl rfl (Y_iop (v := .bool false) rfl rfl rfl) ?_
    refine GL_nil ?_
    (repeat (first | (with_reducible refine R_seq ?_) | (with_reducible refine R_block_normal ?_)))
    (repeat (with_reducible refine G_seq ?_))
    refine G_cond_f rfl (by first | rfl | decide | (simp; done) | (simp; omega)) ?_
    (repeat (with_reducible refine G_seq ?_))
    refine G_skip ?_
    (repeat (first | (with_reducible refine R_seq ?_) | (with_reducible refine R_block_normal ?_)))
    (repeat (with_reducible refine G_seq ?_))
    refine G_region ?_
    refine GL_y rfl rfl (Y_move rfl) ?_
    refine GL_call rfl rfl rfl rfl Try.call17 .nil (fun w hw => parse_no (hs2.keep hw (by simp)) hc hl2 h) ?_
    rintro _ _ ⟨rfl, rfl⟩
    refine GL_y rfl rfl (Y_move rfl) ?_
    refine GL_y rfl rfl (Y_extract rfl rfl) ?_
    refine GL_y rfl rfl (Y_extract rfl rfl) ?_
    refine GL_y rfl rfl (Y_assign rfl) ?_
    refine GL_y rfl rfl (Y_assign rfl) ?_
    refine GL_nil ?_
    (repeat (first | (with_reducible refine R_seq ?_) | (with_reducible refine R_block_normal ?_)))
    (repeat (with_reducible refine G_seq ?_))
    refine G_region ?_
    refine GL_y rfl rfl (Y_move rfl) ?_
    refine GL_y rfl rfl (Y_iop (v := .bool true) rfl rfl rfl) ?_
    refine GL_nil ?_
    (repeat (first | (with_reducible refine R_seq ?_) | (with_reducible refine R_block_normal ?_)))
    (repeat (with_reducible refine G_seq ?_))
    refine G_cond_t rfl (by first | rfl | decide | (simp; done) | (simp; omega)) ?_
    (repeat (with_reducible refine G_seq ?_))
    refine G_region ?_
    refine GL_call rfl rfl rfl rfl Try.call14 .nil (fun w hw => awake_is) ?_
    rintro _ _ ⟨rfl, rfl⟩
    refine GL_y rfl rfl (Y_assign rfl) ?_
    refine GL_nil ?_
    (repeat (first | (with_reducible refine R_seq ?_) | (with_reducible refine R_block_normal ?_)))
    (repeat (with_reducible refine G_seq ?_))
    refine G_ret ?_
    (repeat (first | (with_reducible refine R_then_ret ?_) | (with_reducible refine R_block_ret ?_)))
    refine R_ret (.tmp rfl .nil) [] .nil ⟨rfl, rfl⟩
set_option maxHeartbeats 4000000 in
theorem back_01 {ao ao2 : Option Addr} {c c2 : Nat} {ring : List KeyD} {bs : List UInt8} {w : World} (hs : SlAt w ao (ringL ring)) (hs2 : SlAt w ao2 (B bs)) (hc : bs.length ≤ c2) (hl : ring.length ≤ 100) (hl2 : bs.length ≤ 1000) (hm : mayB ring = false) (h : okB bs = true) : FnAt Try.prog 7 [.slice ao ring.length c, .slice ao2 bs.length c2] [] w (Ret fun v N => v = .bool true ∧ N = []) := by
  obtain ⟨ks, hk⟩ : ∃ ks, keysOf 8 (bs.drop 8) = ks := ⟨_, rfl⟩
  have hkl : ks.length ≤ 8 := hk ▸ keysOf_len 8 _
  obtain ⟨_, hmk, hbk⟩ := okB_of h
  rw [hk] at hmk hbk
  refine FnAt.intro Try.func7 rfl Try.ntmps7 rfl _ rfl ?_
  (repeat (with_reducible refine G_seq ?_))
  refine G_region ?_
  refine GL_y rfl rfl (Y_assign rfl) ?_
  refine GL_nil ?_
  (repeat (first | (with_reducible refine R_seq ?_) | (with_reducible refine R_block_normal ?_)))
  (repeat (with_reducible refine G_seq ?_))
  refine G_region ?_
  refine GL_y rfl rfl (Y_move rfl) ?_
  refine GL_y rfl rfl (Y_len sl22 rfl) ?_
  refine GL_y rfl rfl (Y_gtrN (b := 100) rfl rfl) ?_
  refine GL_y rfl rfl (Y_move rfl) ?_
  refine GL_bool 16 rfl (fun g16 => ?_) (fun g16 => ?_)
  · -- g16 True
    exact absurd g16 (by simp; omega)
  · -- g16 False
    refine GL_y rfl rfl (Y_move rfl) ?_
    refine GL_y rfl rfl (Y_len sl24 rfl) ?_
    refine GL_y rfl rfl (Y_gtrN (b := 1000) rfl rfl) ?_
    refine GL_y rfl rfl (Y_pick rfl rfl rfl rfl) ?_
    refine GL_nil ?_
    (repeat (first | (with_reducible refine R_seq ?_) | (with_reducible refine R_block_normal ?_)))
    (repeat (with_reducible refine G_seq ?_))
    refine G_cond_f rfl (by simp; omega) ?_
    (repeat (with_reducible refine G_seq ?_))
    refine G_skip ?_
    (repeat (first | (with_reducible refine R_seq ?_) | (with_reducible refine R_block_normal ?_)))
    (repeat (with_reducible refine G_seq ?_))
    refine G_region ?_
    refine GL_y rfl rfl (Y_move rfl) ?_
    refine GL_call rfl rfl rfl rfl Try.call9 .nil (fun w hw => bytes_bad (hs.keep hw (by simp)) (by omega) hm) ?_
    rintro _ _ ⟨rfl, rfl⟩
    refine GL_y rfl rfl (Y_move rfl) ?_
    refine GL_y rfl rfl (Y_extract rfl rfl) ?_
    refine GL_y rfl rfl (Y_extract rfl rfl) ?_
    refine GL_y rfl rfl (Y_assign rfl) ?_
    refine GL_y rfl rfl (Y_assign rfl) ?_
    refine GL_nil ?_
    (repeat (first | (with_reducible refine R_seq ?_) | (with_reducible refine R_block_normal ?_)))
    (repeat (with_reducible refine G_seq ?_))
    refine G_region ?_
    refine GL_y rfl rfl (Y_move rfl) ?_
    refine GL_y rfl rfl (Y_iop (v := .bool false) rfl rfl rfl) ?_
    refine GL_nil ?_
    (repeat (first | (with_reducible refine R_seq ?_) | (with_reducible refine R_block_normal ?_)))
    (repeat (with_reducible refine G_seq ?_))
    refine G_cond_f rfl (by first | rfl | decide | (simp; done) | (simp; omega)) ?_
    (repeat (with_reducible refine G_seq ?_))
    refine G_skip ?_
    (repeat (first | (with_reducible refine R_seq ?_) | (with_reducible refine R_block_normal ?_)))
    (repeat (with_reducible refine G_seq ?_))
    refine G_region ?_
    refine GL_y rfl rfl (Y_move rfl) ?_
    refine GL_call rfl rfl rfl rfl Try.call17 .nil (fun w hw => parse_ok (hs2.keep hw (by simp)) hc hl2 rfl hk h) ?_
    rintro _ N3 ⟨a3, c3, rfl, hO3⟩
    refine GL_y rfl rfl (Y_move rfl) ?_
    refine GL_y rfl rfl (Y_extract rfl rfl) ?_
    refine GL_y rfl rfl (Y_extract rfl rfl) ?_
    refine GL_y rfl rfl (Y_assign rfl) ?_
    refine GL_y rfl rfl (Y_assign rfl) ?_
    refine GL_nil ?_
    (repeat (first | (with_reducible refine R_seq ?_) | (with_reducible refine R_block_normal ?_)))
    (repeat (with_reducible refine G_seq ?_))
    refine G_region ?_
    refine GL_y rfl rfl (Y_move rfl) ?_
    refine GL_y rfl rfl (Y_iop (v := .bool false) rfl rfl rfl) ?_
    refine GL_nil ?_
    (repeat (first | (with_reducible refine R_seq ?_) | (with_reducible refine R_block_normal ?_)))
    (repeat (with_reducible refine G_seq ?_))
    refine G_cond_f rfl (by first | rfl | decide | (simp; done) | (simp; omega)) ?_
    (repeat (with_reducible refine G_seq ?_))
    refine G_skip ?_
    (repeat (first | (with_reducible refine R_seq ?_) | (with_reducible refine R_block_normal ?_)))
    (repeat (with_reducible refine G_seq ?_))
    refine G_region ?_
    refine GL_y rfl rfl (Y_move rfl) ?_
    refine GL_call rfl rfl rfl rfl Try.call9 .nil (fun w hw => bytes_ok (hO3.sl hw.left) (by omega) hmk) ?_
    rintro _ _ ⟨b51, c51, _, rfl, rfl⟩
    refine GL_y rfl rfl (Y_move rfl) ?_
    refine GL_y rfl rfl (Y_extract rfl rfl) ?_
    refine GL_y rfl rfl (Y_extract rfl rfl) ?_
    refine GL_y rfl rfl (Y_assign rfl) ?_
    refine GL_y rfl rfl (Y_assign rfl) ?_
    refine GL_nil ?_
    (repeat (first | (with_reducible refine R_seq ?_) | (with_reducible refine R_block_normal ?_)))
    (repeat (with_reducible refine G_seq ?_))
    refine G_region ?_
    refine GL_call rfl rfl rfl rfl Try.call14 .nil (fun w hw => awake_is) ?_
    rintro _ _ ⟨rfl, rfl⟩
    refine GL_y rfl rfl (Y_move rfl) ?_
    refine GL_y rfl rfl (Y_move rfl) ?_
    refine GL_y rfl rfl (Y_iop (v := .bool true) rfl rfl rfl) ?_
    refine GL_y rfl rfl (Y_pick rfl rfl rfl rfl) ?_
    refine GL_y rfl rfl (Y_move rfl) ?_
    refine GL_y rfl rfl (Y_move rfl) ?_
    refine GL_y rfl rfl (Y_str (bs := bytesD ks) Try.underlying24 Try.underlying5 Try.underlying9 rfl rfl (fun w s => SlAt.mk' (s.cells (k := ⟨b51, 5, c51 * 1, B (bytesD ks), (0, 0)⟩) (by first | exact .head _ | exact .tail _ (.head _) | exact .tail _ (.tail _ (.head _)) | exact .tail _ (.tail _ (.tail _ (.head _))) | exact .tail _ (.tail _ (.tail _ (.tail _ (.head _)))) | exact .tail _ (.tail _ (.tail _ (.tail _ (.tail _ (.head _))))) | exact .tail _ (.tail _ (.tail _ (.tail _ (.tail _ (.tail _ (.head _)))))) | exact .tail _ (.tail _ (.tail _ (.tail _ (.tail _ (.tail _ (.tail _ (.head _))))))) | exact .tail _ (.tail _ (.tail _ (.tail _ (.tail _ (.tail _ (.tail _ (.tail _ (.head _)))))))) | exact .tail _ (.tail _ (.tail _ (.tail _ (.tail _ (.tail _ (.tail _ (.tail _ (.tail _ (.head _))))))))) | exact .tail _ (.tail _ (.tail _ (.tail _ (.tail _ (.tail _ (.tail _ (.tail _ (.tail _ (.tail _ (.head _)))))))))) | exact .tail _ (.tail _ (.tail _ (.tail _ (.tail _ (.tail _ (.tail _ (.tail _ (.tail _ (.tail _ (.tail _ (.head _))))))))))) | exact .tail _ (.tail _ (.tail _ (.tail _ (.tail _ (.tail _ (.tail _ (.tail _ (.tail _ (.tail _ (.tail _ (.tail _ (.head _)))))))))))) | exact .tail _ (.tail _ (.tail _ (.tail _ (.tail _ (.tail _ (.tail _ (.tail _ (.tail _ (.tail _ (.tail _ (.tail _ (.tail _ (.head _))))))))))))))))) ?_
    refine GL_y rfl rfl (Y_move rfl) ?_
    refine GL_y rfl rfl (Y_str (bs := bs) Try.underlying24 Try.underlying5 Try.underlying9 rfl rfl (fun w s => hs2.keep s (by simp))) ?_
    refine GL_y rfl rfl ((Y_eqstr rfl rfl).as (.bool true) (by simp [hbk])) ?_
    refine GL_y rfl rfl (Y_pick rfl rfl rfl rfl) ?_
    refine GL_y rfl rfl (Y_assign rfl) ?_
    refine GL_nil ?_
    (repeat (first | (with_reducible refine R_seq ?_) | (with_reducible refine R_block_normal ?_)))
    (repeat (with_reducible refine G_seq ?_))
    refine G_ret ?_
    (repeat (first | (with_reducible refine R_then_ret ?_) | (with_reducible refine R_block_ret ?_)))
    refine R_ret (.tmp rfl .nil) [] .nil ⟨rfl, rfl⟩
set_option maxHeartbeats 4000000 in
theorem back_10 {ao ao2 : Option Addr} {c c2 : Nat} {ring : List KeyD} {bs : List UInt8} {w : World} (hs : SlAt w ao (ringL ring)) (hs2 : SlAt w ao2 (B bs)) (hc : bs.length ≤ c2) (hl : ring.length ≤ 100) (hl2 : bs.length ≤ 1000) (hm : mayB ring = true) (h : okB bs = false) : FnAt Try.prog 7 [.slice ao ring.length c, .slice ao2 bs.length c2] [] w (Ret fun v N => v = .bool true ∧ N = []) := by
  refine FnAt.intro Try.func7 rfl Try.ntmps7 rfl _ rfl ?_
  (repeat (with_reducible refine G_seq ?_))
  refine G_region ?_
  refine GL_y rfl rfl (Y_assign rfl) ?_
  refine GL_nil ?_
  (repeat (first | (with_reducible refine R_seq ?_) | (with_reducible refine R_block_normal ?_)))
  (repeat (with_reducible refine G_seq ?_))
  refine G_region ?_
  refine GL_y rfl rfl (Y_move rfl) ?_
  refine GL_y rfl rfl (Y_len sl22 rfl) ?_
  refine GL_y rfl rfl (Y_gtrN (b := 100) rfl rfl) ?_
  refine GL_y rfl rfl (Y_move rfl) ?_
  refine GL_bool 16 rfl (fun g16 => ?_) (fun g16 => ?_)
  · -- g16 True
    exact absurd g16 (by simp; omega)
  · -- g16 False
    refine GL_y rfl rfl (Y_move rfl) ?_
    refine GL_y rfl rfl (Y_len sl24 rfl) ?_
    refine GL_y rfl rfl (Y_gtrN (b := 1000) rfl rfl) ?_
    refine GL_y rfl rfl (Y_pick rfl rfl rfl rfl) ?_
    refine GL_nil ?_
    (repeat (first | (with_reducible refine R_seq ?_) | (with_reducible refine R_block_normal ?_)))
    (repeat (with_reducible refine G_seq ?_))
    refine G_cond_f rfl (by simp; omega) ?_
    (repeat (with_reducible refine G_seq ?_))
    refine G_skip ?_
    (repeat (first | (with_reducible refine R_seq ?_) | (with_reducible refine R_block_normal ?_)))
    (repeat (with_reducible refine G_seq ?_))
    refine G_region ?_
    refine GL_y rfl rfl (Y_move rfl) ?_
    refine GL_call rfl rfl rfl rfl Try.call9 .nil (fun w hw => bytes_ok (hs.keep hw (by simp)) (by omega) hm) ?_
    rintro _ _ ⟨b23, c23, h23, rfl, rfl⟩
    refine GL_y rfl rfl (Y_move rfl) ?_
    refine GL_y rfl rfl (Y_extract rfl rfl) ?_
    refine GL_y rfl rfl (Y_extract rfl rfl) ?_
    refine GL_y rfl rfl (Y_assign rfl) ?_
    refine GL_y rfl rfl (Y_assign rfl) ?_
    refine GL_nil ?_
    (repeat (first | (with_reducible refine R_seq ?_) | (with_reducible refine R_block_normal ?_)))
    (repeat (with_reducible refine G_seq ?_))
    refine G_region ?_
    refine GL_y rfl rfl (Y_move rfl) ?_
    refine GL_y rfl rfl (Y_iop (v := .bool true) rfl rfl rfl) ?_
    refine GL_nil ?_
    (repeat (first | (with_reducible refine R_seq ?_) | (with_reducible refine R_block_normal ?_)))
    (repeat (with_reducible refine G_seq ?_))
    refine G_cond_t rfl (by first | rfl | decide | (simp; done) | (simp; omega)) ?_
    (repeat (with_reducible refine G_seq ?_))
    refine G_region ?_
    refine GL_y rfl rfl (Y_move rfl) ?_
    refine GL_call rfl rfl rfl rfl Try.call17 .nil (fun w hw => parse_ok (SlAt.mk' (hw.cells (k := ⟨b23, 5, c23 * 1, B (bytesD ring), (0, 0)⟩) (by first | exact .head _ | exact .tail _ (.head _) | exact .tail _ (.tail _ (.head _)) | exact .tail _ (.tail _ (.tail _ (.head _))) | exact .tail _ (.tail _ (.tail _ (.tail _ (.head _)))) | exact .tail _ (.tail _ (.tail _ (.tail _ (.tail _ (.head _))))) | exact .tail _ (.tail _ (.tail _ (.tail _ (.tail _ (.tail _ (.head _)))))) | exact .tail _ (.tail _ (.tail _ (.tail _ (.tail _ (.tail _ (.tail _ (.head _))))))) | exact .tail _ (.tail _ (.tail _ (.tail _ (.tail _ (.tail _ (.tail _ (.tail _ (.head _)))))))) | exact .tail _ (.tail _ (.tail _ (.tail _ (.tail _ (.tail _ (.tail _ (.tail _ (.tail _ (.head _))))))))) | exact .tail _ (.tail _ (.tail _ (.tail _ (.tail _ (.tail _ (.tail _ (.tail _ (.tail _ (.tail _ (.head _)))))))))) | exact .tail _ (.tail _ (.tail _ (.tail _ (.tail _ (.tail _ (.tail _ (.tail _ (.tail _ (.tail _ (.tail _ (.head _))))))))))) | exact .tail _ (.tail _ (.tail _ (.tail _ (.tail _ (.tail _ (.tail _ (.tail _ (.tail _ (.tail _ (.tail _ (.tail _ (.head _)))))))))))) | exact .tail _ (.tail _ (.tail _ (.tail _ (.tail _ (.tail _ (.tail _ (.tail _ (.tail _ (.tail _ (.tail _ (.tail _ (.tail _ (.head _)))))))))))))))) h23 (by have := may_len hm; rw [bytesD_len]; omega) rfl (ring_back hm) (okB_back hm)) ?_
    rintro _ N1 ⟨a1, c1, rfl, hO1⟩
    refine GL_y rfl rfl (Y_move rfl) ?_
    refine GL_y rfl rfl (Y_extract rfl rfl) ?_
    refine GL_y rfl rfl (Y_extract rfl rfl) ?_
    refine GL_y rfl rfl (Y_assign rfl) ?_
    refine GL_y rfl rfl (Y_assign rfl) ?_
    refine GL_nil ?_
    (repeat (first | (with_reducible refine R_seq ?_) | (with_reducible refine R_block_normal ?_)))
    (repeat (with_reducible refine G_seq ?_))
    refine G_region ?_
    refine GL_y rfl rfl (Y_move rfl) ?_
    refine GL_y rfl rfl (Y_iop (v := .bool false) rfl rfl rfl) ?_
    refine GL_y rfl rfl (Y_move rfl) ?_
    refine GL_y rfl rfl (Y_move rfl) ?_
    refine GL_y rfl rfl (Y_move rfl) ?_
    refine GL_call rfl rfl rfl rfl Try.call12 .nil (fun w hw => same_is (hO1.sl hw.left) (hs.keep hw (by simp)) (by omega)) ?_
    rintro _ _ ⟨rfl, rfl⟩
    refine GL_y rfl rfl (Y_not rfl) ?_
    refine GL_y rfl rfl (Y_pick rfl rfl rfl rfl) ?_
    refine GL_nil ?_
    (repeat (first | (with_reducible refine R_seq ?_) | (with_reducible refine R_block_normal ?_)))
    (repeat (with_reducible refine G_seq ?_))
    refine G_cond_f rfl (by simp) ?_
    (repeat (with_reducible refine G_seq ?_))
    refine G_skip ?_
    (repeat (first | (with_reducible refine R_seq ?_) | (with_reducible refine R_block_normal ?_)))
    (repeat (with_reducible refine G_seq ?_))
    refine G_region ?_
    refine GL_y rfl rfl (Y_move rfl) ?_
    refine GL_call rfl rfl rfl rfl Try.call17 .nil (fun w hw => parse_no (hs2.keep hw (by simp)) hc hl2 h) ?_
    rintro _ _ ⟨rfl, rfl⟩
    refine GL_y rfl rfl (Y_move rfl) ?_
    refine GL_y rfl rfl (Y_extract rfl rfl) ?_
    refine GL_y rfl rfl (Y_extract rfl rfl) ?_
    refine GL_y rfl rfl (Y_assign rfl) ?_
    refine GL_y rfl rfl (Y_assign rfl) ?_
    refine GL_nil ?_
    (repeat (first | (with_reducible refine R_seq ?_) | (with_reducible refine R_block_normal ?_)))
    (repeat (with_reducible refine G_seq ?_))
    refine G_region ?_
    refine GL_y rfl rfl (Y_move rfl) ?_
    refine GL_y rfl rfl (Y_iop (v := .bool true) rfl rfl rfl) ?_
    refine GL_nil ?_
    (repeat (first | (with_reducible refine R_seq ?_) | (with_reducible refine R_block_normal ?_)))
    (repeat (with_reducible refine G_seq ?_))
    refine G_cond_t rfl (by first | rfl | decide | (simp; done) | (simp; omega)) ?_
    (repeat (with_reducible refine G_seq ?_))
    refine G_region ?_
    refine GL_call rfl rfl rfl rfl Try.call14 .nil (fun w hw => awake_is) ?_
    rintro _ _ ⟨rfl, rfl⟩
    refine GL_y rfl rfl (Y_assign rfl) ?_
    refine GL_nil ?_
    (repeat (first | (with_reducible refine R_seq ?_) | (with_reducible refine R_block_normal ?_)))
    (repeat (with_reducible refine G_seq ?_))
    refine G_ret ?_
    (repeat (first | (with_reducible refine R_then_ret ?_) | (with_reducible refine R_block_ret ?_)))
    refine R_ret (.tmp rfl .nil) [] .nil ⟨rfl, rfl⟩
set_option maxHeartbeats 4000000 in
theorem back_11 {ao ao2 : Option Addr} {c c2 : Nat} {ring : List KeyD} {bs : List UInt8} {w : World} (hs : SlAt w ao (ringL ring)) (hs2 : SlAt w ao2 (B bs)) (hc : bs.length ≤ c2) (hl : ring.length ≤ 100) (hl2 : bs.length ≤ 1000) (hm : mayB ring = true) (h : okB bs = true) : FnAt Try.prog 7 [.slice ao ring.length c, .slice ao2 bs.length c2] [] w (Ret fun v N => v = .bool true ∧ N = []) := by
  obtain ⟨ks, hk⟩ : ∃ ks, keysOf 8 (bs.drop 8) = ks := ⟨_, rfl⟩
  have hkl : ks.length ≤ 8 := hk ▸ keysOf_len 8 _
  obtain ⟨_, hmk, hbk⟩ := okB_of h
  rw [hk] at hmk hbk
  refine FnAt.intro Try.func7 rfl Try.ntmps7 rfl _ rfl ?_
  (repeat (with_reducible refine G_seq ?_))
  refine G_region ?_
  refine GL_y rfl rfl (Y_assign rfl) ?_
  refine GL_nil ?_
  (repeat (first | (with_reducible refine R_seq ?_) | (with_reducible refine R_block_normal ?_)))
  (repeat (with_reducible refine G_seq ?_))
  refine G_region ?_
  refine GL_y rfl rfl (Y_move rfl) ?_
  refine GL_y rfl rfl (Y_len sl22 rfl) ?_
  refine GL_y rfl rfl (Y_gtrN (b := 100) rfl rfl) ?_
  refine GL_y rfl rfl (Y_move rfl) ?_
  refine GL_bool 16 rfl (fun g16 => ?_) (fun g16 => ?_)
  · -- g16 True
    exact absurd g16 (by simp; omega)
  · -- g16 False
    refine GL_y rfl rfl (Y_move rfl) ?_
    refine GL_y rfl rfl (Y_len sl24 rfl) ?_
    refine GL_y rfl rfl (Y_gtrN (b := 1000) rfl rfl) ?_
    refine GL_y rfl rfl (Y_pick rfl rfl rfl rfl) ?_
    refine GL_nil ?_
    (repeat (first | (with_reducible refine R_seq ?_) | (with_reducible refine R_block_normal ?_)))
    (repeat (with_reducible refine G_seq ?_))
    refine G_cond_f rfl (by simp; omega) ?_
    (repeat (with_reducible refine G_seq ?_))
    refine G_skip ?_
    (repeat (first | (with_reducible refine R_seq ?_) | (with_reducible refine R_block_normal ?_)))
    (repeat (with_reducible refine G_seq ?_))
    refine G_region ?_
    refine GL_y rfl rfl (Y_move rfl) ?_
    refine GL_call rfl rfl rfl rfl Try.call9 .nil (fun w hw => bytes_ok (hs.keep hw (by simp)) (by omega) hm) ?_
    rintro _ _ ⟨b23, c23, h23, rfl, rfl⟩
    refine GL_y rfl rfl (Y_move rfl) ?_
    refine GL_y rfl rfl (Y_extract rfl rfl) ?_
    refine GL_y rfl rfl (Y_extract rfl rfl) ?_
    refine GL_y rfl rfl (Y_assign rfl) ?_
    refine GL_y rfl rfl (Y_assign rfl) ?_
    refine GL_nil ?_
    (repeat (first | (with_reducible refine R_seq ?_) | (with_reducible refine R_block_normal ?_)))
    (repeat (with_reducible refine G_seq ?_))
    refine G_region ?_
    refine GL_y rfl rfl (Y_move rfl) ?_
    refine GL_y rfl rfl (Y_iop (v := .bool true) rfl rfl rfl) ?_
    refine GL_nil ?_
    (repeat (first | (with_reducible refine R_seq ?_) | (with_reducible refine R_block_normal ?_)))
    (repeat (with_reducible refine G_seq ?_))
    refine G_cond_t rfl (by first | rfl | decide | (simp; done) | (simp; omega)) ?_
    (repeat (with_reducible refine G_seq ?_))
    refine G_region ?_
    refine GL_y rfl rfl (Y_move rfl) ?_
    refine GL_call rfl rfl rfl rfl Try.call17 .nil (fun w hw => parse_ok (SlAt.mk' (hw.cells (k := ⟨b23, 5, c23 * 1, B (bytesD ring), (0, 0)⟩) (by first | exact .head _ | exact .tail _ (.head _) | exact .tail _ (.tail _ (.head _)) | exact .tail _ (.tail _ (.tail _ (.head _))) | exact .tail _ (.tail _ (.tail _ (.tail _ (.head _)))) | exact .tail _ (.tail _ (.tail _ (.tail _ (.tail _ (.head _))))) | exact .tail _ (.tail _ (.tail _ (.tail _ (.tail _ (.tail _ (.head _)))))) | exact .tail _ (.tail _ (.tail _ (.tail _ (.tail _ (.tail _ (.tail _ (.head _))))))) | exact .tail _ (.tail _ (.tail _ (.tail _ (.tail _ (.tail _ (.tail _ (.tail _ (.head _)))))))) | exact .tail _ (.tail _ (.tail _ (.tail _ (.tail _ (.tail _ (.tail _ (.tail _ (.tail _ (.head _))))))))) | exact .tail _ (.tail _ (.tail _ (.tail _ (.tail _ (.tail _ (.tail _ (.tail _ (.tail _ (.tail _ (.head _)))))))))) | exact .tail _ (.tail _ (.tail _ (.tail _ (.tail _ (.tail _ (.tail _ (.tail _ (.tail _ (.tail _ (.tail _ (.head _))))))))))) | exact .tail _ (.tail _ (.tail _ (.tail _ (.tail _ (.tail _ (.tail _ (.tail _ (.tail _ (.tail _ (.tail _ (.tail _ (.head _)))))))))))) | exact .tail _ (.tail _ (.tail _ (.tail _ (.tail _ (.tail _ (.tail _ (.tail _ (.tail _ (.tail _ (.tail _ (.tail _ (.tail _ (.head _)))))))))))))))) h23 (by have := may_len hm; rw [bytesD_len]; omega) rfl (ring_back hm) (okB_back hm)) ?_
    rintro _ N1 ⟨a1, c1, rfl, hO1⟩
    refine GL_y rfl rfl (Y_move rfl) ?_
    refine GL_y rfl rfl (Y_extract rfl rfl) ?_
    refine GL_y rfl rfl (Y_extract rfl rfl) ?_
    refine GL_y rfl rfl (Y_assign rfl) ?_
    refine GL_y rfl rfl (Y_assign rfl) ?_
    refine GL_nil ?_
    (repeat (first | (with_reducible refine R_seq ?_) | (with_reducible refine R_block_normal ?_)))
    (repeat (with_reducible refine G_seq ?_))
    refine G_region ?_
    refine GL_y rfl rfl (Y_move rfl) ?_
    refine GL_y rfl rfl (Y_iop (v := .bool false) rfl rfl rfl) ?_
    refine GL_y rfl rfl (Y_move rfl) ?_
    refine GL_y rfl rfl (Y_move rfl) ?_
    refine GL_y rfl rfl (Y_move rfl) ?_
    refine GL_call rfl rfl rfl rfl Try.call12 .nil (fun w hw => same_is (hO1.sl hw.left) (hs.keep hw (by simp)) (by omega)) ?_
    rintro _ _ ⟨rfl, rfl⟩
    refine GL_y rfl rfl (Y_not rfl) ?_
    refine GL_y rfl rfl (Y_pick rfl rfl rfl rfl) ?_
    refine GL_nil ?_
    (repeat (first | (with_reducible refine R_seq ?_) | (with_reducible refine R_block_normal ?_)))
    (repeat (with_reducible refine G_seq ?_))
    refine G_cond_f rfl (by simp) ?_
    (repeat (with_reducible refine G_seq ?_))
    refine G_skip ?_
    (repeat (first | (with_reducible refine R_seq ?_) | (with_reducible refine R_block_normal ?_)))
    (repeat (with_reducible refine G_seq ?_))
    refine G_region ?_
    refine GL_y rfl rfl (Y_move rfl) ?_
    refine GL_call rfl rfl rfl rfl Try.call17 .nil (fun w hw => parse_ok (hs2.keep hw (by simp)) hc hl2 rfl hk h) ?_
    rintro _ N3 ⟨a3, c3, rfl, hO3⟩
    refine GL_y rfl rfl (Y_move rfl) ?_
    refine GL_y rfl rfl (Y_extract rfl rfl) ?_
    refine GL_y rfl rfl (Y_extract rfl rfl) ?_
    refine GL_y rfl rfl (Y_assign rfl) ?_
    refine GL_y rfl rfl (Y_assign rfl) ?_
    refine GL_nil ?_
    (repeat (first | (with_reducible refine R_seq ?_) | (with_reducible refine R_block_normal ?_)))
    (repeat (with_reducible refine G_seq ?_))
    refine G_region ?_
    refine GL_y rfl rfl (Y_move rfl) ?_
    refine GL_y rfl rfl (Y_iop (v := .bool false) rfl rfl rfl) ?_
    refine GL_nil ?_
    (repeat (first | (with_reducible refine R_seq ?_) | (with_reducible refine R_block_normal ?_)))
    (repeat (with_reducible refine G_seq ?_))
    refine G_cond_f rfl (by first | rfl | decide | (simp; done) | (simp; omega)) ?_
    (repeat (with_reducible refine G_seq ?_))
    refine G_skip ?_
    (repeat (first | (with_reducible refine R_seq ?_) | (with_reducible refine R_block_normal ?_)))
    (repeat (with_reducible refine G_seq ?_))
    refine G_region ?_
    refine GL_y rfl rfl (Y_move rfl) ?_
    refine GL_call rfl rfl rfl rfl Try.call9 .nil (fun w hw => bytes_ok (hO3.sl hw.left) (by omega) hmk) ?_
    rintro _ _ ⟨b51, c51, _, rfl, rfl⟩
    refine GL_y rfl rfl (Y_move rfl) ?_
    refine GL_y rfl rfl (Y_extract rfl rfl) ?_
    refine GL_y rfl rfl (Y_extract rfl rfl) ?_
    refine GL_y rfl rfl (Y_assign rfl) ?_
    refine GL_y rfl rfl (Y_assign rfl) ?_
    refine GL_nil ?_
    (repeat (first | (with_reducible refine R_seq ?_) | (with_reducible refine R_block_normal ?_)))
    (repeat (with_reducible refine G_seq ?_))
    refine G_region ?_
    refine GL_call rfl rfl rfl rfl Try.call14 .nil (fun w hw => awake_is) ?_
    rintro _ _ ⟨rfl, rfl⟩
    refine GL_y rfl rfl (Y_move rfl) ?_
    refine GL_y rfl rfl (Y_move rfl) ?_
    refine GL_y rfl rfl (Y_iop (v := .bool true) rfl rfl rfl) ?_
    refine GL_y rfl rfl (Y_pick rfl rfl rfl rfl) ?_
    refine GL_y rfl rfl (Y_move rfl) ?_
    refine GL_y rfl rfl (Y_move rfl) ?_
    refine GL_y rfl rfl (Y_str (bs := bytesD ks) Try.underlying24 Try.underlying5 Try.underlying9 rfl rfl (fun w s => SlAt.mk' (s.cells (k := ⟨b51, 5, c51 * 1, B (bytesD ks), (0, 0)⟩) (by first | exact .head _ | exact .tail _ (.head _) | exact .tail _ (.tail _ (.head _)) | exact .tail _ (.tail _ (.tail _ (.head _))) | exact .tail _ (.tail _ (.tail _ (.tail _ (.head _)))) | exact .tail _ (.tail _ (.tail _ (.tail _ (.tail _ (.head _))))) | exact .tail _ (.tail _ (.tail _ (.tail _ (.tail _ (.tail _ (.head _)))))) | exact .tail _ (.tail _ (.tail _ (.tail _ (.tail _ (.tail _ (.tail _ (.head _))))))) | exact .tail _ (.tail _ (.tail _ (.tail _ (.tail _ (.tail _ (.tail _ (.tail _ (.head _)))))))) | exact .tail _ (.tail _ (.tail _ (.tail _ (.tail _ (.tail _ (.tail _ (.tail _ (.tail _ (.head _))))))))) | exact .tail _ (.tail _ (.tail _ (.tail _ (.tail _ (.tail _ (.tail _ (.tail _ (.tail _ (.tail _ (.head _)))))))))) | exact .tail _ (.tail _ (.tail _ (.tail _ (.tail _ (.tail _ (.tail _ (.tail _ (.tail _ (.tail _ (.tail _ (.head _))))))))))) | exact .tail _ (.tail _ (.tail _ (.tail _ (.tail _ (.tail _ (.tail _ (.tail _ (.tail _ (.tail _ (.tail _ (.tail _ (.head _)))))))))))) | exact .tail _ (.tail _ (.tail _ (.tail _ (.tail _ (.tail _ (.tail _ (.tail _ (.tail _ (.tail _ (.tail _ (.tail _ (.tail _ (.head _))))))))))))))))) ?_
    refine GL_y rfl rfl (Y_move rfl) ?_
    refine GL_y rfl rfl (Y_str (bs := bs) Try.underlying24 Try.underlying5 Try.underlying9 rfl rfl (fun w s => hs2.keep s (by simp))) ?_
    refine GL_y rfl rfl ((Y_eqstr rfl rfl).as (.bool true) (by simp [hbk])) ?_
    refine GL_y rfl rfl (Y_pick rfl rfl rfl rfl) ?_
    refine GL_y rfl rfl (Y_assign rfl) ?_
    refine GL_nil ?_
    (repeat (first | (with_reducible refine R_seq ?_) | (with_reducible refine R_block_normal ?_)))
    (repeat (with_reducible refine G_seq ?_))
    refine G_ret ?_
    (repeat (first | (with_reducible refine R_then_ret ?_) | (with_reducible refine R_block_ret ?_)))
    refine R_ret (.tmp rfl .nil) [] .nil ⟨rfl, rfl⟩
theorem keysBack_is {ao ao2 : Option Addr} {c c2 : Nat} {ring : List KeyD} {bs : List UInt8} {w : World} (hs : SlAt w ao (ringL ring)) (hs2 : SlAt w ao2 (B bs)) (hc : bs.length ≤ c2) : FnAt Try.prog 7 [.slice ao ring.length c, .slice ao2 bs.length c2] [] w (Ret fun v N => v = .bool true ∧ N = []) := by
  rcases Nat.lt_or_ge 100 ring.length with hl | hl
  · exact back_long1 hl
  · rcases Nat.lt_or_ge 1000 bs.length with hl2 | hl2
    · exact back_long2 hl hl2
    · cases hm : mayB ring <;> cases h : okB bs
      · exact back_00 hs hs2 hc hl hl2 hm h
      · exact back_01 hs hs2 hc hl hl2 hm h
      · exact back_10 hs hs2 hc hl hl2 hm h
      · exact back_11 hs hs2 hc hl hl2 hm h
end Go.Proofs.Ytkdodpcafamhaaa

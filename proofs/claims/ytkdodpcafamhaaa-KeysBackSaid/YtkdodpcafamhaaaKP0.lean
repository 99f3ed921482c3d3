/-
  Reading a ring; the laws KeysParse, KeysBack.
-/
import Derived.Test.YtkdodpcafamhaaaK5
import Derived.Test.YtkdodpcafamhaaaK6
import Derived.Test.YtkdodpcafamhaaaKQ
namespace Go.Proofs.Ytkdodpcafamhaaa
open Go Go.Sl Go.RowKit


section
variable {n : Nat} {D : List Deferred} {X : List Nat} {w0 : World} {E : Env} {M : List Blk} {tt ty : TypeId} {ao : Option Addr} {l c j : Nat} {x y i : Operand} {k : IntKind} {bs : List UInt8} {u : UInt8}
theorem bytesNe (hk : bs[j]? = some u) : B bs ≠ [] := fun e => by
  have h1 := (List.getElem?_eq_some_iff.1 hk).1
  rw [B, List.map_eq_nil_iff] at e; subst e; simp at h1
theorem Y_bAt (hs : SlAt w0 ao (B bs)) (hx : ev E x = some (.slice ao l c)) (hi : ev E i = some (.int k (j : Int))) (hk : bs[j]? = some u) (hl : l = bs.length) :
    Yl Try.prog n D X w0 E M (.indexAddr 24 x i) tt (.pointer (some ⟨adb ao, ado ao + j, none⟩)) :=
  Y_idxS1 sl24 hx (hs.addr (bytesNe hk)) hi (by rw [hl]; exact (List.getElem?_eq_some_iff.1 hk).1)
theorem Y_bGet (hs : SlAt w0 ao (B bs)) (hX : adb ao ∉ X) (hx : ev E x = some (.pointer (some ⟨adb ao, ado ao + j, none⟩))) (hk : bs[j]? = some u) :
    Yl Try.prog n D X w0 E M (.load 5 x) tt (bv u) :=
  Y_loadX hx sc5 hs.cells hX rfl (by simp [B, hk])
theorem Y_shlN {t : TypeId} {a b : Nat} {yk : IntKind} (hx : ev E x = some (.int .i64 (a : Int))) (hy : ev E y = some (.int yk (b : Int))) (hb : b ≤ 64) (h : a * 2 ^ b < 9223372036854775808) :
    Yl Try.prog n D X w0 E M (.binOp .shl t x y ty) tt (.int .i64 ((a * 2 ^ b : Nat) : Int)) := by
  have h1 := Y_shl (P := Try.prog) (n := n) (D := D) (X := X) (w0 := w0) (M := M) (tt := tt) (t := t) (ty := ty) hx hy
  refine h1.as _ ?_
  have e : min b IntKind.i64.bits = b := Nat.min_eq_left hb
  have e2 : ((a : Int) * 2 ^ b) = ((a * 2 ^ b : Nat) : Int) := by simp
  rw [e, e2, wrap64_nat h]
theorem Y_orN {t : TypeId} {a b k : Nat} (hx : ev E x = some (.int .i64 (a : Int))) (hy : ev E y = some (.int .i64 ((b * 2 ^ k : Nat) : Int))) (ha : a < 2 ^ k) (h : a + b * 2 ^ k < 9223372036854775808) :
    Yl Try.prog n D X w0 E M (.binOp .or t x y ty) tt (.int .i64 ((a + b * 2 ^ k : Nat) : Int)) := Y_iop hx hy (iop_or ha h)
/-- rest[4:36]. -/
theorem Y_sl32 (hs : SlAt w0 ao (B bs)) (h37 : 37 ≤ bs.length) (hx : ev E x = some (.slice ao l c)) (hl : l = bs.length) (hc : l ≤ c) :
    Yl Try.prog n D X w0 E M (.slice 24 x (some (.const (.int .i64 4))) (some (.const (.int .i64 36))) none) tt (.slice (some ⟨adb ao, ado ao + 4, none⟩) 32 (c - 4)) := by
  have h := Y_slS (P := Try.prog) (n := n) (D := D) (X := X) (w0 := w0) (M := M) (tt := tt) (lo := some (.const (.int .i64 4))) (hi := some (.const (.int .i64 36))) (vl := some (.int .i64 4)) (vh := some (.int .i64 36)) (kl := 4) (kh := 36)
    sl24 hx rfl rfl ⟨_, rfl⟩ ⟨_, rfl⟩ (by decide) (by omega) hc
  refine h.as _ ?_
  have hao := hs.addr (fun e => by have := congrArg List.length e; simp [B] at this; subst this; simp at h37)
  have hne : ¬ c = 4 := by omega
  unfold subA
  rw [if_neg hne]
  conv => lhs; rw [hao]
  simp only [Option.map_some, addr_add]
theorem Y_ld32 (hs : SlAt w0 ao (B bs)) (hX : adb ao ∉ X) (h37 : 37 ≤ bs.length) (hx : ev E x = some (.pointer (some ⟨adb ao, ado ao + 4, none⟩))) : Yl Try.prog n D X w0 E M (.load 28 x) tt (.agg (B (keyOf bs).bytes).toArray) := by
  have e : B (keyOf bs).bytes = ((B bs).drop 4).take 32 := by
    show B (partB bs 32) = _
    rw [partB_all (by omega)]; simp [B, List.map_drop, List.map_take]
  rw [e]
  exact Y_loadXA hx (by rw [List.length_take, List.length_drop, len_B]; have : min 32 (bs.length - 4) = 32 := by omega
                        rw [this]; exact ag28) (hs.cells.sub 4 32) hX
end
theorem built39 (parts : List (Nat × Value)) : Try.prog.built 39 parts = Instr.fill (#[(0, 1), (1, 32), (33, 1)][·]?) (([.int .i64 0] ++ List.replicate 32 (bv 0) ++ [.bool false] : List Value)).toArray parts := by kernel_rfl
theorem build39 (k : KeyD) (w : World) : (Instr.build 39 #[(0, .int .i64 k.num), (1, .agg (B k.bytes).toArray), (2, .bool k.rev)]).run Try.prog w = .ok (.agg (keyL k).toArray) w := by
  refine run_build w 39 _ _ ?_
  rw [built39]
  have h32 : (B k.bytes).length = 32 := by rw [len_B, k.len]
  rw [fill_step (ys := [.int .i64 k.num]) (off := 0) rfl rfl (by simp), fill_step (ys := B k.bytes) (off := 1) (by simp [h32]) rfl (by rw [h32]; simp [put]), fill_step (ys := [.bool k.rev]) (off := 33) rfl rfl (by simp [put, h32])]
  simp only [Instr.fill, Option.some.injEq]
  congr 1
  simp only [put, h32]
  simp [keyL, h32]
theorem build39' (k : KeyD) (hz : k.bytes = z32) (w : World) : (Instr.build 39 #[(0, .int .i64 k.num), (2, .bool k.rev)]).run Try.prog w = .ok (.agg (keyL k).toArray) w := by
  refine run_build w 39 _ _ ?_
  rw [built39]
  rw [fill_step (ys := [.int .i64 k.num]) (off := 0) rfl rfl (by simp), fill_step (ys := [.bool k.rev]) (off := 33) rfl rfl (by simp [put])]
  simp only [Instr.fill, Option.some.injEq]
  congr 1
  simp only [keyL, hz]
  rfl
theorem equal_is {a1 a2 : Option Addr} {c1 c2 l1 l2 : Nat} {b1 b2 : List UInt8} {w : World} (h1 : SlAt w a1 (B b1)) (h2 : SlAt w a2 (B b2)) (e1 : l1 = b1.length) (e2 : l2 = b2.length) :
    FnAt Try.prog 24 [.slice a1 l1 c1, .slice a2 l2 c2] [] w (Ret fun v N => v = .bool (decide (b1 = b2)) ∧ N = []) := by
  refine FnAt.intro Try.func24 rfl Try.ntmps24 rfl _ rfl ?_
  (repeat (with_reducible refine G_seq ?_))
  refine G_region ?_
  refine GL_y rfl rfl (Y_assign rfl) ?_
  refine GL_nil ?_
  (repeat (first | (with_reducible refine R_seq ?_) | (with_reducible refine R_block_normal ?_)))
  (repeat (with_reducible refine G_seq ?_))
  refine G_region ?_
  refine GL_y rfl rfl (Y_move rfl) ?_
  refine GL_y rfl rfl (Y_str (bs := b1) Try.underlying24 Try.underlying5 Try.underlying9 rfl e1.symm (fun w s => h1.keep s (by simp))) ?_
  refine GL_y rfl rfl (Y_move rfl) ?_
  refine GL_y rfl rfl (Y_str (bs := b2) Try.underlying24 Try.underlying5 Try.underlying9 rfl e2.symm (fun w s => h2.keep s (by simp))) ?_
  refine GL_y rfl rfl (Y_eqstr rfl rfl) ?_
  refine GL_y rfl rfl (Y_assign rfl) ?_
  refine GL_nil ?_
  (repeat (first | (with_reducible refine R_seq ?_) | (with_reducible refine R_block_normal ?_)))
  (repeat (with_reducible refine G_seq ?_))
  refine G_ret ?_
  (repeat (first | (with_reducible refine R_then_ret ?_) | (with_reducible refine R_block_ret ?_)))
  refine R_ret (.tmp rfl .nil) [] .nil ⟨rfl, rfl⟩
set_option maxHeartbeats 4000000 in
theorem number_is {ao : Option Addr} {c l : Nat} {bs : List UInt8} {x0 x1 x2 x3 : UInt8} {w : World} (hs : SlAt w ao (B bs)) (hl : l = bs.length) (h0 : bs[0]? = some x0) (h1 : bs[1]? = some x1) (h2 : bs[2]? = some x2) (h3 : bs[3]? = some x3) :
    FnAt Try.prog 25 [.slice ao l c] [] w (Ret fun v N => v = .int .i64 (num4 x0 x1 x2 x3 : Nat) ∧ N = []) := by
  have b0 := x0.toNat_lt
  have b1 := x1.toNat_lt
  have b2 := x2.toNat_lt
  have b3 := x3.toNat_lt
  refine FnAt.intro Try.func25 rfl Try.ntmps25 rfl _ rfl ?_
  (repeat (with_reducible refine G_seq ?_))
  refine G_region ?_
  refine GL_y rfl rfl (Y_assign rfl) ?_
  refine GL_nil ?_
  (repeat (first | (with_reducible refine R_seq ?_) | (with_reducible refine R_block_normal ?_)))
  (repeat (with_reducible refine G_seq ?_))
  refine G_region ?_
  refine GL_y rfl rfl (Y_assign (v := .int .i64 ((0 : Nat) : Int)) rfl) ?_
  refine GL_nil ?_
  (repeat (first | (with_reducible refine R_seq ?_) | (with_reducible refine R_block_normal ?_)))
  (repeat (with_reducible refine G_seq ?_))
  refine G_region ?_
  refine GL_y rfl rfl (Y_assign rfl) ?_
  refine GL_nil ?_
  (repeat (first | (with_reducible refine R_seq ?_) | (with_reducible refine R_block_normal ?_)))
  (repeat (with_reducible refine G_seq ?_))
  refine G_block ?_
  (repeat (with_reducible refine G_seq ?_))
  refine G_rounds 4 ?_
  -- round 0 of loop 0
  (repeat (with_reducible refine G_seq ?_))
  refine G_region ?_
  refine GL_y rfl rfl (Y_move rfl) ?_
  refine GL_y rfl rfl (Y_iop rfl rfl rfl) ?_
  refine GL_nil ?_
  (repeat (first | (with_reducible refine R_seq ?_) | (with_reducible refine R_block_normal ?_)))
  (repeat (with_reducible refine G_seq ?_))
  refine G_cond_t rfl (by first | rfl | decide) ?_
  (repeat (with_reducible refine G_seq ?_))
  refine G_skip ?_
  (repeat (first | (with_reducible refine R_seq ?_) | (with_reducible refine R_block_normal ?_)))
  (repeat (with_reducible refine G_seq ?_))
  refine G_block ?_
  (repeat (with_reducible refine G_seq ?_))
  refine G_region ?_
  refine GL_y rfl rfl (Y_move rfl) ?_
  refine GL_y rfl rfl (Y_mulN (a := 256) rfl rfl (by omega)) ?_
  refine GL_y rfl rfl (Y_move rfl) ?_
  refine GL_y rfl rfl (Y_move rfl) ?_
  refine GL_y rfl rfl (Y_bAt (j := 3) hs rfl rfl h3 hl) ?_
  refine GL_y rfl rfl (Y_bGet (j := 3) hs (by simp) rfl h3) ?_
  refine GL_y rfl rfl (Y_ofByte Try.underlying5 Try.underlying3 (by decide) rfl) ?_
  refine GL_y rfl rfl (Y_addN rfl rfl (by first | omega | decide)) ?_
  refine GL_y rfl rfl (Y_assign rfl) ?_
  refine GL_nil ?_
  (repeat (first | (with_reducible refine R_seq ?_) | (with_reducible refine R_block_normal ?_)))
  (repeat (with_reducible refine G_seq ?_))
  refine G_region ?_
  refine GL_y rfl rfl (Y_move rfl) ?_
  refine GL_y rfl rfl (Y_iop (v := .int .i64 2) rfl rfl rfl) ?_
  refine GL_y rfl rfl (Y_assign rfl) ?_
  refine GL_nil ?_
  (repeat (first | (with_reducible refine R_seq ?_) | (with_reducible refine R_block_normal ?_)))
  (repeat (first | (with_reducible refine R_block_normal ?_) | (with_reducible refine R_round ?_)))
  -- round 1 of loop 0
  (repeat (with_reducible refine G_seq ?_))
  refine G_region ?_
  refine GL_y rfl rfl (Y_move rfl) ?_
  refine GL_y rfl rfl (Y_iop rfl rfl rfl) ?_
  refine GL_nil ?_
  (repeat (first | (with_reducible refine R_seq ?_) | (with_reducible refine R_block_normal ?_)))
  (repeat (with_reducible refine G_seq ?_))
  refine G_cond_t rfl (by first | rfl | decide) ?_
  (repeat (with_reducible refine G_seq ?_))
  refine G_skip ?_
  (repeat (first | (with_reducible refine R_seq ?_) | (with_reducible refine R_block_normal ?_)))
  (repeat (with_reducible refine G_seq ?_))
  refine G_block ?_
  (repeat (with_reducible refine G_seq ?_))
  refine G_region ?_
  refine GL_y rfl rfl (Y_move rfl) ?_
  refine GL_y rfl rfl (Y_mulN (a := 256) rfl rfl (by omega)) ?_
  refine GL_y rfl rfl (Y_move rfl) ?_
  refine GL_y rfl rfl (Y_move rfl) ?_
  refine GL_y rfl rfl (Y_bAt (j := 2) hs rfl rfl h2 hl) ?_
  refine GL_y rfl rfl (Y_bGet (j := 2) hs (by simp) rfl h2) ?_
  refine GL_y rfl rfl (Y_ofByte Try.underlying5 Try.underlying3 (by decide) rfl) ?_
  refine GL_y rfl rfl (Y_addN rfl rfl (by first | omega | decide)) ?_
  refine GL_y rfl rfl (Y_assign rfl) ?_
  refine GL_nil ?_
  (repeat (first | (with_reducible refine R_seq ?_) | (with_reducible refine R_block_normal ?_)))
  (repeat (with_reducible refine G_seq ?_))
  refine G_region ?_
  refine GL_y rfl rfl (Y_move rfl) ?_
  refine GL_y rfl rfl (Y_iop (v := .int .i64 1) rfl rfl rfl) ?_
  refine GL_y rfl rfl (Y_assign rfl) ?_
  refine GL_nil ?_
  (repeat (first | (with_reducible refine R_seq ?_) | (with_reducible refine R_block_normal ?_)))
  (repeat (first | (with_reducible refine R_block_normal ?_) | (with_reducible refine R_round ?_)))
  -- round 2 of loop 0
  (repeat (with_reducible refine G_seq ?_))
  refine G_region ?_
  refine GL_y rfl rfl (Y_move rfl) ?_
  refine GL_y rfl rfl (Y_iop rfl rfl rfl) ?_
  refine GL_nil ?_
  (repeat (first | (with_reducible refine R_seq ?_) | (with_reducible refine R_block_normal ?_)))
  (repeat (with_reducible refine G_seq ?_))
  refine G_cond_t rfl (by first | rfl | decide) ?_
  (repeat (with_reducible refine G_seq ?_))
  refine G_skip ?_
  (repeat (first | (with_reducible refine R_seq ?_) | (with_reducible refine R_block_normal ?_)))
  (repeat (with_reducible refine G_seq ?_))
  refine G_block ?_
  (repeat (with_reducible refine G_seq ?_))
  refine G_region ?_
  refine GL_y rfl rfl (Y_move rfl) ?_
  refine GL_y rfl rfl (Y_mulN (a := 256) rfl rfl (by omega)) ?_
  refine GL_y rfl rfl (Y_move rfl) ?_
  refine GL_y rfl rfl (Y_move rfl) ?_
  refine GL_y rfl rfl (Y_bAt (j := 1) hs rfl rfl h1 hl) ?_
  refine GL_y rfl rfl (Y_bGet (j := 1) hs (by simp) rfl h1) ?_
  refine GL_y rfl rfl (Y_ofByte Try.underlying5 Try.underlying3 (by decide) rfl) ?_
  refine GL_y rfl rfl (Y_addN rfl rfl (by first | omega | decide)) ?_
  refine GL_y rfl rfl (Y_assign rfl) ?_
  refine GL_nil ?_
  (repeat (first | (with_reducible refine R_seq ?_) | (with_reducible refine R_block_normal ?_)))
  (repeat (with_reducible refine G_seq ?_))
  refine G_region ?_
  refine GL_y rfl rfl (Y_move rfl) ?_
  refine GL_y rfl rfl (Y_iop (v := .int .i64 0) rfl rfl rfl) ?_
  refine GL_y rfl rfl (Y_assign rfl) ?_
  refine GL_nil ?_
  (repeat (first | (with_reducible refine R_seq ?_) | (with_reducible refine R_block_normal ?_)))
  (repeat (first | (with_reducible refine R_block_normal ?_) | (with_reducible refine R_round ?_)))
  -- round 3 of loop 0
  (repeat (with_reducible refine G_seq ?_))
  refine G_region ?_
  refine GL_y rfl rfl (Y_move rfl) ?_
  refine GL_y rfl rfl (Y_iop rfl rfl rfl) ?_
  refine GL_nil ?_
  (repeat (first | (with_reducible refine R_seq ?_) | (with_reducible refine R_block_normal ?_)))
  (repeat (with_reducible refine G_seq ?_))
  refine G_cond_t rfl (by first | rfl | decide) ?_
  (repeat (with_reducible refine G_seq ?_))
  refine G_skip ?_
  (repeat (first | (with_reducible refine R_seq ?_) | (with_reducible refine R_block_normal ?_)))
  (repeat (with_reducible refine G_seq ?_))
  refine G_block ?_
  (repeat (with_reducible refine G_seq ?_))
  refine G_region ?_
  refine GL_y rfl rfl (Y_move rfl) ?_
  refine GL_y rfl rfl (Y_mulN (a := 256) rfl rfl (by omega)) ?_
  refine GL_y rfl rfl (Y_move rfl) ?_
  refine GL_y rfl rfl (Y_move rfl) ?_
  refine GL_y rfl rfl (Y_bAt (j := 0) hs rfl rfl h0 hl) ?_
  refine GL_y rfl rfl (Y_bGet (j := 0) hs (by simp) rfl h0) ?_
  refine GL_y rfl rfl (Y_ofByte Try.underlying5 Try.underlying3 (by decide) rfl) ?_
  refine GL_y rfl rfl (Y_addN rfl rfl (by first | omega | decide)) ?_
  refine GL_y rfl rfl (Y_assign rfl) ?_
  refine GL_nil ?_
  (repeat (first | (with_reducible refine R_seq ?_) | (with_reducible refine R_block_normal ?_)))
  (repeat (with_reducible refine G_seq ?_))
  refine G_region ?_
  refine GL_y rfl rfl (Y_move rfl) ?_
  refine GL_y rfl rfl (Y_iop (v := .int .i64 (-1)) rfl rfl rfl) ?_
  refine GL_y rfl rfl (Y_assign rfl) ?_
  refine GL_nil ?_
  (repeat (first | (with_reducible refine R_seq ?_) | (with_reducible refine R_block_normal ?_)))
  (repeat (first | (with_reducible refine R_block_normal ?_) | (with_reducible refine R_round ?_)))
  -- round 4 of loop 0
  (repeat (with_reducible refine G_seq ?_))
  refine G_region ?_
  refine GL_y rfl rfl (Y_move rfl) ?_
  refine GL_y rfl rfl (Y_iop rfl rfl rfl) ?_
  refine GL_nil ?_
  (repeat (first | (with_reducible refine R_seq ?_) | (with_reducible refine R_block_normal ?_)))
  (repeat (with_reducible refine G_seq ?_))
  refine G_cond_f rfl (by first | rfl | decide) ?_
  (repeat (with_reducible refine G_seq ?_))
  refine G_exit ?_
  (repeat (first | (with_reducible refine R_then_exit ?_) | (with_reducible refine R_block_exit ?_) | (with_reducible refine R_block_other (by decide) ?_)))
  (repeat (first | (with_reducible refine R_seq ?_) | (with_reducible refine R_block_normal ?_)))
  (repeat (with_reducible refine G_seq ?_))
  refine G_region ?_
  refine GL_y rfl rfl (Y_move rfl) ?_
  refine GL_y rfl rfl (Y_assign rfl) ?_
  refine GL_nil ?_
  (repeat (first | (with_reducible refine R_seq ?_) | (with_reducible refine R_block_normal ?_)))
  (repeat (with_reducible refine G_seq ?_))
  refine G_ret ?_
  (repeat (first | (with_reducible refine R_then_ret ?_) | (with_reducible refine R_block_ret ?_)))
  refine R_ret (.tmp rfl .nil) [] .nil ⟨by rw [← num_ref]; rfl, rfl⟩
structure PI where
  ao : Option Addr
  c : Nat
  N : List Blk
  ring : List KeyD
  ra : Option Addr
  rl : Nat
  rc : Nat
  rest : List UInt8
/-- A key appended. -/
theorem W_appKey {n : Nat} {D : List Deferred} {X : List Nat} {w0 : World} {E : Env} {M M1 N : List Blk} {tt : TypeId} {x y : Operand} {ao : Option Addr} {c l b2 : Nat} {ring : List KeyD} {kd : KeyD} {K : Value → List Blk → Prop} {t2 : Nat}
    (hO : Own N ao c ring) (hx : ev E x = some (.slice ao l c)) (hl : l = ring.length) (hy : ev E y = some (.slice (some ⟨b2, 0, none⟩) 1 1)) (hlen : ring.length ≤ 1000) (hN : Pick M N M1) (hkb : (⟨b2, 39, t2, keyL kd, (0, 0)⟩ : Blk) ∈ M1)
    (k : ∀ b' c', K (.slice (some ⟨b', 0, none⟩) (ring ++ [kd]).length c') (⟨b', 39, c' * 34, ringL (ring ++ [kd]), (0, 0)⟩ :: M1)) :
    Wr Try.prog n D X w0 E M (.call ⟨.builtin .append, #[x, y], #[22, 22]⟩) tt K := by
  subst hl
  rcases hO with ⟨rfl, rfl, rfl, rfl⟩ | ⟨b, rfl, rfl⟩
  · cases hN
    refine W_appNil (ys := keyL kd) Try.underlying22 el39 hx hy (by rw [keyL_len]) (by decide) (fun w s => SlAt.mk' (s.cells hkb)) (by decide) (by decide) (by decide) fun b' c' _ => ?_
    have := k b' c'
    rw [List.nil_append, ringL_one] at this
    exact this
  · cases hN with
    | cons h1 h2 =>
      cases h2
      have hp := h1.perm
      refine W_app (l := ring.length) (xs := ringL ring) (ys := keyL kd) Try.underlying22 el39 hx hy h1 (ringL_len ring) (by rw [keyL_len]) (.inl rfl) (fun w s => SlAt.mk' ((s.perm hp).cells (List.mem_cons_of_mem _ hkb))) (keyL_all kd) (by decide) (by omega) (by omega) fun b' c' _ => ?_
      have := k b' c'
      rw [ringL_append, ringL_one, List.length_append] at this
      exact this
set_option maxHeartbeats 4000000 in
theorem parse_short {ao : Option Addr} {c : Nat} {bs : List UInt8} {w : World} (h8 : bs.length < 8) : FnAt Try.prog 17 [.slice ao bs.length c] [] w (Ret fun v N => v = .tuple #[.slice none 0 0, .int .i64 4] ∧ N = []) := by
  refine FnAt.intro Try.func17 rfl Try.ntmps17 rfl _ rfl ?_
  (repeat (with_reducible refine G_seq ?_))
  refine G_region ?_
  refine GL_y rfl rfl (Y_assign rfl) ?_
  refine GL_y rfl rfl (Y_assign rfl) ?_
  refine GL_nil ?_
  (repeat (first | (with_reducible refine R_seq ?_) | (with_reducible refine R_block_normal ?_)))
  (repeat (with_reducible refine G_seq ?_))
  refine G_region ?_
  refine GL_y rfl rfl (Y_assign rfl) ?_
  refine GL_nil ?_
  (repeat (first | (with_reducible refine R_seq ?_) | (with_reducible refine R_block_normal ?_)))
  (repeat (with_reducible refine G_seq ?_))
  refine G_region ?_
  refine GL_y rfl rfl (Y_move rfl) ?_
  refine GL_y rfl rfl (Y_len sl24 rfl) ?_
  refine GL_y rfl rfl (Y_move rfl) ?_
  refine GL_y rfl rfl (Y_lssN rfl rfl) ?_
  refine GL_nil ?_
  (repeat (first | (with_reducible refine R_seq ?_) | (with_reducible refine R_block_normal ?_)))
  (repeat (with_reducible refine G_seq ?_))
  refine G_cond_t rfl (by simp; omega) ?_
  (repeat (with_reducible refine G_seq ?_))
  refine G_region ?_
  refine GL_y rfl rfl (Y_assign rfl) ?_
  refine GL_y rfl rfl (Y_assign rfl) ?_
  refine GL_nil ?_
  (repeat (first | (with_reducible refine R_seq ?_) | (with_reducible refine R_block_normal ?_)))
  (repeat (with_reducible refine G_seq ?_))
  refine G_ret ?_
  (repeat (first | (with_reducible refine R_then_ret ?_) | (with_reducible refine R_block_ret ?_)))
  refine R_ret (.tmp rfl (.tmp rfl .nil)) [] .nil ⟨rfl, rfl⟩
set_option maxHeartbeats 4000000 in
theorem parse_bad {ao : Option Addr} {c : Nat} {bs : List UInt8} {w : World} (hs : SlAt w ao (B bs)) (hc : bs.length ≤ c) (hl : bs.length ≤ 1000) (h8 : 8 ≤ bs.length) (hm : mayB (keysOf 8 (bs.drop 8)) = false) : FnAt Try.prog 17 [.slice ao bs.length c] [] w (Ret fun v N => v = .tuple #[.slice none 0 0, .int .i64 4] ∧ N = []) := by
  refine FnAt.intro Try.func17 rfl Try.ntmps17 rfl _ rfl ?_
  (repeat (with_reducible refine G_seq ?_))
  refine G_region ?_
  refine GL_y rfl rfl (Y_assign rfl) ?_
  refine GL_y rfl rfl (Y_assign rfl) ?_
  refine GL_nil ?_
  (repeat (first | (with_reducible refine R_seq ?_) | (with_reducible refine R_block_normal ?_)))
  (repeat (with_reducible refine G_seq ?_))
  refine G_region ?_
  refine GL_y rfl rfl (Y_assign rfl) ?_
  refine GL_nil ?_
  (repeat (first | (with_reducible refine R_seq ?_) | (with_reducible refine R_block_normal ?_)))
  (repeat (with_reducible refine G_seq ?_))
  refine G_region ?_
  refine GL_y rfl rfl (Y_move rfl) ?_
  refine GL_y rfl rfl (Y_len sl24 rfl) ?_
  refine GL_y rfl rfl (Y_move rfl) ?_
  refine GL_y rfl rfl (Y_lssN rfl rfl) ?_
  refine GL_nil ?_
  (repeat (first | (with_reducible refine R_seq ?_) | (with_reducible refine R_block_normal ?_)))
  (repeat (with_reducible refine G_seq ?_))
  refine G_cond_f rfl (by simp; omega) ?_
  (repeat (with_reducible refine G_seq ?_))
  refine G_skip ?_
  (repeat (first | (with_reducible refine R_seq ?_) | (with_reducible refine R_block_normal ?_)))
  (repeat (with_reducible refine G_seq ?_))
  refine G_region ?_
  refine GL_y rfl rfl (Y_assign rfl) ?_
  refine GL_nil ?_
  (repeat (first | (with_reducible refine R_seq ?_) | (with_reducible refine R_block_normal ?_)))
  (repeat (with_reducible refine G_seq ?_))
  refine G_region ?_
  refine GL_y rfl rfl (Y_move rfl) ?_
  refine GL_y rfl rfl (Y_move rfl) ?_
  refine GL_y rfl rfl (Y_slS (vl := some _) (vh := none) (kl := 8) (kh := bs.length) sl24 rfl rfl rfl ⟨_, rfl⟩ rfl (by omega) hc hc) ?_
  refine GL_y rfl rfl (Y_assign rfl) ?_
  refine GL_nil ?_
  (repeat (first | (with_reducible refine R_seq ?_) | (with_reducible refine R_block_normal ?_)))
  (repeat (with_reducible refine G_seq ?_))
  refine G_block ?_
  (repeat (with_reducible refine G_seq ?_))
  refine G_loop (ι := PI) (fun i => i.rl) (fun i => i.rl = i.rest.length ∧ i.rl ≤ i.rc ∧ SlAt w i.ra (B i.rest) ∧ Own i.N i.ao i.c i.ring ∧ i.ring.length ≤ 8 ∧ keysOf 8 (bs.drop 8) = i.ring ++ keysOf (8 - i.ring.length) i.rest) (fun i => [(0, .slice ao bs.length c), (2, .slice none 0 0), (3, .int .i64 0), (4, .int .i64 8), (5, .slice i.ao i.ring.length i.c), (6, .slice i.ra i.rl i.rc)]) (fun i => i.N) ⟨none, 0, [], [], subA ao c 8 1, bs.length - 8, c - 8, bs.drop 8⟩ ?_ (⟨by first | rfl | decide, by first | rfl | decide, by first | rfl | decide, by first | rfl | decide, by first | rfl | decide, by first | rfl | decide, trivial⟩) (by repeat (first | exact .nil | exact Pick.rfl' _ | exact Pick.skip (Pick.rfl' _) | exact Pick.skip (Pick.skip (Pick.rfl' _)) | (apply Pick.cons; focus (first | exact .head | exact (.tail .head) | exact (.tail (.tail .head)) | exact (.tail (.tail (.tail .head))) | exact (.tail (.tail (.tail (.tail .head)))) | exact (.tail (.tail (.tail (.tail (.tail .head))))) | exact (.tail (.tail (.tail (.tail (.tail (.tail .head)))))) | exact (.tail (.tail (.tail (.tail (.tail (.tail (.tail .head))))))) | exact (.tail (.tail (.tail (.tail (.tail (.tail (.tail (.tail .head)))))))) | exact (.tail (.tail (.tail (.tail (.tail (.tail (.tail (.tail (.tail .head))))))))) | exact (.tail (.tail (.tail (.tail (.tail (.tail (.tail (.tail (.tail (.tail .head)))))))))) | exact (.tail (.tail (.tail (.tail (.tail (.tail (.tail (.tail (.tail (.tail (.tail .head))))))))))) | exact (.tail (.tail (.tail (.tail (.tail (.tail (.tail (.tail (.tail (.tail (.tail (.tail .head)))))))))))) | exact (.tail (.tail (.tail (.tail (.tail (.tail (.tail (.tail (.tail (.tail (.tail (.tail (.tail .head))))))))))))))))) ?_
  · -- start
    refine ⟨by simp, by simp only; omega, ?_, .inl ⟨rfl, rfl, rfl, rfl⟩, by simp, by simp⟩
    have h := hs.drop c 8 1 (by rw [len_B]; omega)
    have e : (B bs).drop (8 * 1) = B (bs.drop 8) := by simp [B, List.map_drop]
    rw [e] at h
    exact h
  intro i ⟨hrl, hrc, hr, hO, h8, hk⟩
  (repeat (with_reducible refine G_seq ?_))
  refine G_region ?_
  refine GL_y rfl rfl (Y_move rfl) ?_
  refine GL_y rfl rfl (Y_len sl24 rfl) ?_
  refine GL_y rfl rfl (Y_geqN (b := 37) rfl rfl) ?_
  refine GL_y rfl rfl (Y_move rfl) ?_
  refine GL_bool 19 rfl (fun g19 => ?_) (fun g19 => ?_)
  · -- g19 True
    refine GL_y rfl rfl (Y_move rfl) ?_
    refine GL_y rfl rfl (Y_len sl22 rfl) ?_
    refine GL_y rfl rfl (Y_lssN (b := 8) rfl rfl) ?_
    refine GL_y rfl rfl (Y_pick rfl rfl rfl rfl) ?_
    refine GL_nil ?_
    (repeat (first | (with_reducible refine R_seq ?_) | (with_reducible refine R_block_normal ?_)))
    (repeat (with_reducible refine G_seq ?_))
    refine G_cond rfl (fun h23 => ?_) (fun h23 => ?_)
    · -- yes
      (repeat (with_reducible refine G_seq ?_))
      refine G_skip ?_
      (repeat (first | (with_reducible refine R_seq ?_) | (with_reducible refine R_block_normal ?_)))
      (repeat (with_reducible refine G_seq ?_))
      refine G_block ?_
      have h37 : 37 ≤ i.rest.length := by have h := of_decide_eq_true g19; omega
      obtain ⟨x0, hx0⟩ : ∃ u, i.rest[0]? = some u := ⟨i.rest[0], List.getElem?_eq_getElem (by omega)⟩
      have hb0 := x0.toNat_lt
      obtain ⟨x1, hx1⟩ : ∃ u, i.rest[1]? = some u := ⟨i.rest[1], List.getElem?_eq_getElem (by omega)⟩
      have hb1 := x1.toNat_lt
      obtain ⟨x2, hx2⟩ : ∃ u, i.rest[2]? = some u := ⟨i.rest[2], List.getElem?_eq_getElem (by omega)⟩
      have hb2 := x2.toNat_lt
      obtain ⟨x3, hx3⟩ : ∃ u, i.rest[3]? = some u := ⟨i.rest[3], List.getElem?_eq_getElem (by omega)⟩
      have hb3 := x3.toNat_lt
      obtain ⟨x36, hx36⟩ : ∃ u, i.rest[36]? = some u := ⟨i.rest[36], List.getElem?_eq_getElem (by omega)⟩
      have hb36 := x36.toNat_lt
      have hkey : keyOf i.rest = ⟨(num4 x0 x1 x2 x3 : Nat), (keyOf i.rest).bytes, (keyOf i.rest).len, decide (x36 = 1)⟩ := by
        refine keyD_ext ?_ rfl ?_
        · show ((num4 (bAt i.rest 0) (bAt i.rest 1) (bAt i.rest 2) (bAt i.rest 3) : Nat) : Int) = _
          rw [bAt_of hx0, bAt_of hx1, bAt_of hx2, bAt_of hx3]
        · show decide (bAt i.rest 36 = 1) = _
          rw [bAt_of hx36]
      have hlt8 : i.ring.length < 8 := of_decide_eq_true h23
      (repeat (with_reducible refine G_seq ?_))
      refine G_draw [33] 35 rfl (by kernel_rfl) ?_
      refine GA_y 0 rfl (by kernel_rfl) (by kernel_rfl) (by kernel_rfl) (fun _ _ _ h => h) rfl rfl rfl (Y_move rfl) ?_
      refine GA_y 1 rfl (by kernel_rfl) (by kernel_rfl) (by kernel_rfl) (fun _ _ _ h => h) rfl rfl rfl (Y_move rfl) ?_
      refine GA_y 2 rfl (by kernel_rfl) (by kernel_rfl) (by kernel_rfl) (fun _ _ _ h => h) rfl rfl rfl (Y_bAt (j := 0) hr rfl rfl hx0 hrl) ?_
      refine GA_y 3 rfl (by kernel_rfl) (by kernel_rfl) (by kernel_rfl) (fun _ _ _ h => h) rfl rfl rfl (Y_bGet (j := 0) hr (by simp) rfl hx0) ?_
      refine GA_y 4 rfl (by kernel_rfl) (by kernel_rfl) (by kernel_rfl) (fun _ _ _ h => h) rfl rfl rfl (Y_ofByte Try.underlying5 Try.underlying3 (by decide) rfl) ?_
      refine GA_y 5 rfl (by kernel_rfl) (by kernel_rfl) (by kernel_rfl) (fun _ _ _ h => h) rfl rfl rfl (Y_move rfl) ?_
      refine GA_y 6 rfl (by kernel_rfl) (by kernel_rfl) (by kernel_rfl) (fun _ _ _ h => h) rfl rfl rfl (Y_bAt (j := 1) hr rfl rfl hx1 hrl) ?_
      refine GA_y 7 rfl (by kernel_rfl) (by kernel_rfl) (by kernel_rfl) (fun _ _ _ h => h) rfl rfl rfl (Y_bGet (j := 1) hr (by simp) rfl hx1) ?_
      refine GA_y 8 rfl (by kernel_rfl) (by kernel_rfl) (by kernel_rfl) (fun _ _ _ h => h) rfl rfl rfl (Y_ofByte Try.underlying5 Try.underlying3 (by decide) rfl) ?_
      refine GA_y 9 rfl (by kernel_rfl) (by kernel_rfl) (by kernel_rfl) (fun _ _ _ h => h) rfl rfl rfl (Y_shlN (b := 8) rfl rfl (by decide) (by omega)) ?_
      refine GA_y 10 rfl (by kernel_rfl) (by kernel_rfl) (by kernel_rfl) (fun _ _ _ h => h) rfl rfl rfl (Y_orN rfl rfl (by omega) (by omega)) ?_
      refine GA_y 11 rfl (by kernel_rfl) (by kernel_rfl) (by kernel_rfl) (fun _ _ _ h => h) rfl rfl rfl (Y_move rfl) ?_
      refine GA_y 12 rfl (by kernel_rfl) (by kernel_rfl) (by kernel_rfl) (fun _ _ _ h => h) rfl rfl rfl (Y_bAt (j := 2) hr rfl rfl hx2 hrl) ?_
      refine GA_y 13 rfl (by kernel_rfl) (by kernel_rfl) (by kernel_rfl) (fun _ _ _ h => h) rfl rfl rfl (Y_bGet (j := 2) hr (by simp) rfl hx2) ?_
      refine GA_y 14 rfl (by kernel_rfl) (by kernel_rfl) (by kernel_rfl) (fun _ _ _ h => h) rfl rfl rfl (Y_ofByte Try.underlying5 Try.underlying3 (by decide) rfl) ?_
      refine GA_y 15 rfl (by kernel_rfl) (by kernel_rfl) (by kernel_rfl) (fun _ _ _ h => h) rfl rfl rfl (Y_shlN (b := 16) rfl rfl (by decide) (by omega)) ?_
      refine GA_y 16 rfl (by kernel_rfl) (by kernel_rfl) (by kernel_rfl) (fun _ _ _ h => h) rfl rfl rfl (Y_orN rfl rfl (by omega) (by omega)) ?_
      refine GA_y 17 rfl (by kernel_rfl) (by kernel_rfl) (by kernel_rfl) (fun _ _ _ h => h) rfl rfl rfl (Y_move rfl) ?_
      refine GA_y 18 rfl (by kernel_rfl) (by kernel_rfl) (by kernel_rfl) (fun _ _ _ h => h) rfl rfl rfl (Y_bAt (j := 3) hr rfl rfl hx3 hrl) ?_
      refine GA_y 19 rfl (by kernel_rfl) (by kernel_rfl) (by kernel_rfl) (fun _ _ _ h => h) rfl rfl rfl (Y_bGet (j := 3) hr (by simp) rfl hx3) ?_
      refine GA_y 20 rfl (by kernel_rfl) (by kernel_rfl) (by kernel_rfl) (fun _ _ _ h => h) rfl rfl rfl (Y_ofByte Try.underlying5 Try.underlying3 (by decide) rfl) ?_
      refine GA_y 21 rfl (by kernel_rfl) (by kernel_rfl) (by kernel_rfl) (fun _ _ _ h => h) rfl rfl rfl (Y_shlN (b := 24) rfl rfl (by decide) (by omega)) ?_
      refine GA_y 22 rfl (by kernel_rfl) (by kernel_rfl) (by kernel_rfl) (fun _ _ _ h => h) rfl rfl rfl (Y_orN rfl rfl (by omega) (by omega)) ?_
      refine GA_y 23 rfl (by kernel_rfl) (by kernel_rfl) (by kernel_rfl) (fun _ _ _ h => h) rfl rfl rfl (Y_move rfl) ?_
      refine GA_y 24 rfl (by kernel_rfl) (by kernel_rfl) (by kernel_rfl) (fun _ _ _ h => h) rfl rfl rfl (Y_sl32 hr h37 rfl hrl hrc) ?_
      refine GA_y 25 rfl (by kernel_rfl) (by kernel_rfl) (by kernel_rfl) (fun _ _ _ h => h) rfl rfl rfl (Y_s2a Try.underlying28 rfl (by decide)) ?_
      refine GA_y 26 rfl (by kernel_rfl) (by kernel_rfl) (by kernel_rfl) (fun _ _ _ h => h) rfl rfl rfl (Y_ld32 hr (by simp) h37 rfl) ?_
      refine GA_y 27 rfl (by kernel_rfl) (by kernel_rfl) (by kernel_rfl) (fun _ _ _ h => h) rfl rfl rfl (Y_move rfl) ?_
      refine GA_y 28 rfl (by kernel_rfl) (by kernel_rfl) (by kernel_rfl) (fun _ _ _ h => h) rfl rfl rfl (Y_bAt (j := 36) hr rfl rfl hx36 hrl) ?_
      refine GA_y 29 rfl (by kernel_rfl) (by kernel_rfl) (by kernel_rfl) (fun _ _ _ h => h) rfl rfl rfl (Y_bGet (j := 36) hr (by simp) rfl hx36) ?_
      refine GA_y 30 rfl (by kernel_rfl) (by kernel_rfl) (by kernel_rfl) (fun _ _ _ h => h) rfl rfl rfl ((Y_iop rfl rfl rfl).as (.bool (decide (x36 = 1))) (congrArg Value.bool (decide_eq_decide.2 ⟨fun h => UInt8.toNat_inj.1 (by have h' : (x36.toNat : Int) = 1 := h; show x36.toNat = 1; omega), fun h => by rw [h]; rfl⟩))) ?_
      refine GA_y 31 rfl (by kernel_rfl) (by kernel_rfl) (by kernel_rfl) (fun _ _ _ h => h) rfl rfl rfl (Y_build (v := .agg (keyL (keyOf i.rest)).toArray) (vs := [(0, .int .i64 (num4 x0 x1 x2 x3 : Nat)), (1, .agg (B (keyOf i.rest).bytes).toArray), (2, .bool (decide (x36 = 1)))]) rfl (fun w => by rw [hkey]; exact build39 ⟨(num4 x0 x1 x2 x3 : Nat), (keyOf i.rest).bytes, (keyOf i.rest).len, decide (x36 = 1)⟩ w)) ?_
      refine GA_one 32 (by kernel_rfl) ?_
      refine GO_w rfl rfl rfl rfl (W_bs1 (xs := keyL (keyOf i.rest)) Try.underlying22 el39 rfl (keyL_len _) (by decide) (by decide) fun b58 => ⟨⟨_, by repeat (first | exact .nil | exact Pick.rfl' _ | exact Pick.skip (Pick.rfl' _) | exact Pick.skip (Pick.skip (Pick.rfl' _)) | (apply Pick.cons; focus (first | exact .head | exact (.tail .head) | exact (.tail (.tail .head)) | exact (.tail (.tail (.tail .head))) | exact (.tail (.tail (.tail (.tail .head)))) | exact (.tail (.tail (.tail (.tail (.tail .head))))) | exact (.tail (.tail (.tail (.tail (.tail (.tail .head)))))) | exact (.tail (.tail (.tail (.tail (.tail (.tail (.tail .head))))))) | exact (.tail (.tail (.tail (.tail (.tail (.tail (.tail (.tail .head)))))))) | exact (.tail (.tail (.tail (.tail (.tail (.tail (.tail (.tail (.tail .head))))))))) | exact (.tail (.tail (.tail (.tail (.tail (.tail (.tail (.tail (.tail (.tail .head)))))))))) | exact (.tail (.tail (.tail (.tail (.tail (.tail (.tail (.tail (.tail (.tail (.tail .head))))))))))) | exact (.tail (.tail (.tail (.tail (.tail (.tail (.tail (.tail (.tail (.tail (.tail (.tail .head)))))))))))) | exact (.tail (.tail (.tail (.tail (.tail (.tail (.tail (.tail (.tail (.tail (.tail (.tail (.tail .head))))))))))))))))⟩, ?_⟩)
      refine GA_one 33 (by kernel_rfl) ?_
      refine GO_wt rfl rfl rfl rfl (W_appKey (kd := keyOf i.rest) hO rfl rfl rfl (by omega) (.skip (Pick.rfl' _)) (by first | exact .head _ | exact .tail _ (.head _) | exact .tail _ (.tail _ (.head _)) | exact .tail _ (.tail _ (.tail _ (.head _))) | exact .tail _ (.tail _ (.tail _ (.tail _ (.head _)))) | exact .tail _ (.tail _ (.tail _ (.tail _ (.tail _ (.head _))))) | exact .tail _ (.tail _ (.tail _ (.tail _ (.tail _ (.tail _ (.head _)))))) | exact .tail _ (.tail _ (.tail _ (.tail _ (.tail _ (.tail _ (.tail _ (.head _))))))) | exact .tail _ (.tail _ (.tail _ (.tail _ (.tail _ (.tail _ (.tail _ (.tail _ (.head _)))))))) | exact .tail _ (.tail _ (.tail _ (.tail _ (.tail _ (.tail _ (.tail _ (.tail _ (.tail _ (.head _))))))))) | exact .tail _ (.tail _ (.tail _ (.tail _ (.tail _ (.tail _ (.tail _ (.tail _ (.tail _ (.tail _ (.head _)))))))))) | exact .tail _ (.tail _ (.tail _ (.tail _ (.tail _ (.tail _ (.tail _ (.tail _ (.tail _ (.tail _ (.tail _ (.head _))))))))))) | exact .tail _ (.tail _ (.tail _ (.tail _ (.tail _ (.tail _ (.tail _ (.tail _ (.tail _ (.tail _ (.tail _ (.tail _ (.head _)))))))))))) | exact .tail _ (.tail _ (.tail _ (.tail _ (.tail _ (.tail _ (.tail _ (.tail _ (.tail _ (.tail _ (.tail _ (.tail _ (.tail _ (.head _)))))))))))))) fun b59 c59 => ?_)
      refine GA_y 34 rfl (by kernel_rfl) (by kernel_rfl) (by kernel_rfl) (fun _ _ _ h => h) rfl rfl rfl (Y_assign rfl) ?_
      refine GA_done (by kernel_rfl) ?_
      (repeat (first | (with_reducible refine R_seq ?_) | (with_reducible refine R_block_normal ?_)))
      (repeat (with_reducible refine G_seq ?_))
      refine G_region ?_
      refine GL_y rfl rfl (Y_move rfl) ?_
      refine GL_y rfl rfl (Y_slS (vl := some _) (vh := none) (kl := 37) (kh := i.rl) sl24 rfl rfl rfl ⟨_, rfl⟩ rfl (by omega) hrc hrc) ?_
      refine GL_y rfl rfl (Y_assign rfl) ?_
      refine GL_nil ?_
      (repeat (first | (with_reducible refine R_seq ?_) | (with_reducible refine R_block_normal ?_)))
      (repeat (with_reducible refine R_block_normal ?_))
      refine R_fam ⟨some ⟨b59, 0, none⟩, c59, [⟨b59, 39, c59 * 34, ringL (i.ring ++ [keyOf i.rest]), (0, 0)⟩], i.ring ++ [keyOf i.rest], subA i.ra i.rc 37 1, i.rl - 37, i.rc - 37, i.rest.drop 37⟩ ?_ (⟨by first | rfl | decide, by first | rfl | decide, by first | rfl | decide, by first | rfl | decide, by first | rfl | decide, by first | rfl | decide, trivial⟩) (by repeat (first | exact .nil | exact Pick.rfl' _ | exact Pick.skip (Pick.rfl' _) | exact Pick.skip (Pick.skip (Pick.rfl' _)) | (apply Pick.cons; focus (first | exact .head | exact (.tail .head) | exact (.tail (.tail .head)) | exact (.tail (.tail (.tail .head))) | exact (.tail (.tail (.tail (.tail .head)))) | exact (.tail (.tail (.tail (.tail (.tail .head))))) | exact (.tail (.tail (.tail (.tail (.tail (.tail .head)))))) | exact (.tail (.tail (.tail (.tail (.tail (.tail (.tail .head))))))) | exact (.tail (.tail (.tail (.tail (.tail (.tail (.tail (.tail .head)))))))) | exact (.tail (.tail (.tail (.tail (.tail (.tail (.tail (.tail (.tail .head))))))))) | exact (.tail (.tail (.tail (.tail (.tail (.tail (.tail (.tail (.tail (.tail .head)))))))))) | exact (.tail (.tail (.tail (.tail (.tail (.tail (.tail (.tail (.tail (.tail (.tail .head))))))))))) | exact (.tail (.tail (.tail (.tail (.tail (.tail (.tail (.tail (.tail (.tail (.tail (.tail .head)))))))))))) | exact (.tail (.tail (.tail (.tail (.tail (.tail (.tail (.tail (.tail (.tail (.tail (.tail (.tail .head)))))))))))))))))
      refine ⟨⟨by simp only [List.length_drop]; omega, by simp only; omega, ?_, .inr ⟨b59, rfl, rfl⟩, by simp only [List.length_append, List.length_singleton]; omega, keysOf_app hk hlt8 h37⟩, by simp only; omega⟩
      have h := hr.drop i.rc 37 1 (by rw [len_B]; omega)
      have e : (B i.rest).drop (37 * 1) = B (i.rest.drop 37) := by simp [B, List.map_drop]
      rw [e] at h
      exact h
    · -- no
      (repeat (with_reducible refine G_seq ?_))
      refine G_exit ?_
      (repeat (first | (with_reducible refine R_then_exit ?_) | (with_reducible refine R_block_exit ?_) | (with_reducible refine R_block_other (by decide) ?_)))
      (repeat (first | (with_reducible refine R_seq ?_) | (with_reducible refine R_block_normal ?_)))
      have hstop : ¬ (37 ≤ i.rl ∧ i.ring.length < 8) := fun h => by have h1 := of_decide_eq_false h23; omega
      have hks : keysOf 8 (bs.drop 8) = i.ring := by
        rw [hk, keysOf_end (by omega)]; simp
      rw [hks] at hm
      (repeat (with_reducible refine G_seq ?_))
      refine G_region ?_
      refine GL_y rfl rfl (Y_move rfl) ?_
      refine GL_call rfl rfl rfl rfl Try.call9 .nil (fun w hw => bytes_bad (hO.sl hw) (by omega) hm) ?_
      rintro _ _ ⟨rfl, rfl⟩
      refine GL_y rfl rfl (Y_move rfl) ?_
      refine GL_y rfl rfl (Y_extract rfl rfl) ?_
      refine GL_y rfl rfl (Y_extract rfl rfl) ?_
      refine GL_y rfl rfl (Y_assign rfl) ?_
      refine GL_y rfl rfl (Y_assign rfl) ?_
      refine GL_nil ?_
      (repeat (first | (with_reducible refine R_seq ?_) | (with_reducible refine R_block_normal ?_)))
      (repeat (with_reducible refine G_seq ?_))
      refine G_region ?_
      refine GL_y rfl rfl (Y_move rfl) ?_
      refine GL_y rfl rfl (Y_iop (v := .bool true) rfl rfl rfl) ?_
      refine GL_y rfl rfl (Y_move rfl) ?_
      refine GL_skip rfl rfl ?_
      refine GL_skip rfl rfl ?_
      refine GL_skip rfl rfl ?_
      refine GL_skip rfl rfl ?_
      refine GL_y rfl rfl (Y_pick rfl rfl rfl rfl) ?_
      refine GL_nil ?_
      (repeat (first | (with_reducible refine R_seq ?_) | (with_reducible refine R_block_normal ?_)))
      (repeat (with_reducible refine G_seq ?_))
      refine G_cond_t rfl (by first | rfl | decide | (simp; done) | (simp; omega)) ?_
      (repeat (with_reducible refine G_seq ?_))
      refine G_region ?_
      refine GL_y rfl rfl (Y_assign rfl) ?_
      refine GL_y rfl rfl (Y_assign rfl) ?_
      refine GL_nil ?_
      (repeat (first | (with_reducible refine R_seq ?_) | (with_reducible refine R_block_normal ?_)))
      (repeat (with_reducible refine G_seq ?_))
      refine G_ret ?_
      (repeat (first | (with_reducible refine R_then_ret ?_) | (with_reducible refine R_block_ret ?_)))
      refine R_ret (.tmp rfl (.tmp rfl .nil)) [] .nil ⟨rfl, rfl⟩
  · -- g19 False
    refine GL_skip rfl rfl ?_
    refine GL_skip rfl rfl ?_
    refine GL_skip rfl rfl ?_
    refine GL_y rfl rfl (Y_pick rfl rfl rfl rfl) ?_
    refine GL_nil ?_
    (repeat (first | (with_reducible refine R_seq ?_) | (with_reducible refine R_block_normal ?_)))
    (repeat (with_reducible refine G_seq ?_))
    refine G_cond_f rfl (by first | rfl | decide | (simp; done) | (simp; omega)) ?_
    (repeat (with_reducible refine G_seq ?_))
    refine G_exit ?_
    (repeat (first | (with_reducible refine R_then_exit ?_) | (with_reducible refine R_block_exit ?_) | (with_reducible refine R_block_other (by decide) ?_)))
    (repeat (first | (with_reducible refine R_seq ?_) | (with_reducible refine R_block_normal ?_)))
    have hstop : ¬ (37 ≤ i.rl ∧ i.ring.length < 8) := fun h => absurd h.1 (by have h1 := of_decide_eq_false g19; omega)
    have hks : keysOf 8 (bs.drop 8) = i.ring := by
      rw [hk, keysOf_end (by omega)]; simp
    rw [hks] at hm
    (repeat (with_reducible refine G_seq ?_))
    refine G_region ?_
    refine GL_y rfl rfl (Y_move rfl) ?_
    refine GL_call rfl rfl rfl rfl Try.call9 .nil (fun w hw => bytes_bad (hO.sl hw) (by omega) hm) ?_
    rintro _ _ ⟨rfl, rfl⟩
    refine GL_y rfl rfl (Y_move rfl) ?_
    refine GL_y rfl rfl (Y_extract rfl rfl) ?_
    refine GL_y rfl rfl (Y_extract rfl rfl) ?_
    refine GL_y rfl rfl (Y_assign rfl) ?_
    refine GL_y rfl rfl (Y_assign rfl) ?_
    refine GL_nil ?_
    (repeat (first | (with_reducible refine R_seq ?_) | (with_reducible refine R_block_normal ?_)))
    (repeat (with_reducible refine G_seq ?_))
    refine G_region ?_
    refine GL_y rfl rfl (Y_move rfl) ?_
    refine GL_y rfl rfl (Y_iop (v := .bool true) rfl rfl rfl) ?_
    refine GL_y rfl rfl (Y_move rfl) ?_
    refine GL_skip rfl rfl ?_
    refine GL_skip rfl rfl ?_
    refine GL_skip rfl rfl ?_
    refine GL_skip rfl rfl ?_
    refine GL_y rfl rfl (Y_pick rfl rfl rfl rfl) ?_
    refine GL_nil ?_
    (repeat (first | (with_reducible refine R_seq ?_) | (with_reducible refine R_block_normal ?_)))
    (repeat (with_reducible refine G_seq ?_))
    refine G_cond_t rfl (by first | rfl | decide | (simp; done) | (simp; omega)) ?_
    (repeat (with_reducible refine G_seq ?_))
    refine G_region ?_
    refine GL_y rfl rfl (Y_assign rfl) ?_
    refine GL_y rfl rfl (Y_assign rfl) ?_
    refine GL_nil ?_
    (repeat (first | (with_reducible refine R_seq ?_) | (with_reducible refine R_block_normal ?_)))
    (repeat (with_reducible refine G_seq ?_))
    refine G_ret ?_
    (repeat (first | (with_reducible refine R_then_ret ?_) | (with_reducible refine R_block_ret ?_)))
    refine R_ret (.tmp rfl (.tmp rfl .nil)) [] .nil ⟨rfl, rfl⟩
set_option maxHeartbeats 4000000 in
theorem parse_ne {ao : Option Addr} {c : Nat} {bs : List UInt8} {w : World} (hs : SlAt w ao (B bs)) (hc : bs.length ≤ c) (hl : bs.length ≤ 1000) (h8 : 8 ≤ bs.length) (hm : mayB (keysOf 8 (bs.drop 8)) = true) (hb : ¬ bytesD (keysOf 8 (bs.drop 8)) = bs) : FnAt Try.prog 17 [.slice ao bs.length c] [] w (Ret fun v N => v = .tuple #[.slice none 0 0, .int .i64 4] ∧ N = []) := by
  refine FnAt.intro Try.func17 rfl Try.ntmps17 rfl _ rfl ?_
  (repeat (with_reducible refine G_seq ?_))
  refine G_region ?_
  refine GL_y rfl rfl (Y_assign rfl) ?_
  refine GL_y rfl rfl (Y_assign rfl) ?_
  refine GL_nil ?_
  (repeat (first | (with_reducible refine R_seq ?_) | (with_reducible refine R_block_normal ?_)))
  (repeat (with_reducible refine G_seq ?_))
  refine G_region ?_
  refine GL_y rfl rfl (Y_assign rfl) ?_
  refine GL_nil ?_
  (repeat (first | (with_reducible refine R_seq ?_) | (with_reducible refine R_block_normal ?_)))
  (repeat (with_reducible refine G_seq ?_))
  refine G_region ?_
  refine GL_y rfl rfl (Y_move rfl) ?_
  refine GL_y rfl rfl (Y_len sl24 rfl) ?_
  refine GL_y rfl rfl (Y_move rfl) ?_
  refine GL_y rfl rfl (Y_lssN rfl rfl) ?_
  refine GL_nil ?_
  (repeat (first | (with_reducible refine R_seq ?_) | (with_reducible refine R_block_normal ?_)))
  (repeat (with_reducible refine G_seq ?_))
  refine G_cond_f rfl (by simp; omega) ?_
  (repeat (with_reducible refine G_seq ?_))
  refine G_skip ?_
  (repeat (first | (with_reducible refine R_seq ?_) | (with_reducible refine R_block_normal ?_)))
  (repeat (with_reducible refine G_seq ?_))
  refine G_region ?_
  refine GL_y rfl rfl (Y_assign rfl) ?_
  refine GL_nil ?_
  (repeat (first | (with_reducible refine R_seq ?_) | (with_reducible refine R_block_normal ?_)))
  (repeat (with_reducible refine G_seq ?_))
  refine G_region ?_
  refine GL_y rfl rfl (Y_move rfl) ?_
  refine GL_y rfl rfl (Y_move rfl) ?_
  refine GL_y rfl rfl (Y_slS (vl := some _) (vh := none) (kl := 8) (kh := bs.length) sl24 rfl rfl rfl ⟨_, rfl⟩ rfl (by omega) hc hc) ?_
  refine GL_y rfl rfl (Y_assign rfl) ?_
  refine GL_nil ?_
  (repeat (first | (with_reducible refine R_seq ?_) | (with_reducible refine R_block_normal ?_)))
  (repeat (with_reducible refine G_seq ?_))
  refine G_block ?_
  (repeat (with_reducible refine G_seq ?_))
  refine G_loop (ι := PI) (fun i => i.rl) (fun i => i.rl = i.rest.length ∧ i.rl ≤ i.rc ∧ SlAt w i.ra (B i.rest) ∧ Own i.N i.ao i.c i.ring ∧ i.ring.length ≤ 8 ∧ keysOf 8 (bs.drop 8) = i.ring ++ keysOf (8 - i.ring.length) i.rest) (fun i => [(0, .slice ao bs.length c), (2, .slice none 0 0), (3, .int .i64 0), (4, .int .i64 8), (5, .slice i.ao i.ring.length i.c), (6, .slice i.ra i.rl i.rc)]) (fun i => i.N) ⟨none, 0, [], [], subA ao c 8 1, bs.length - 8, c - 8, bs.drop 8⟩ ?_ (⟨by first | rfl | decide, by first | rfl | decide, by first | rfl | decide, by first | rfl | decide, by first | rfl | decide, by first | rfl | decide, trivial⟩) (by repeat (first | exact .nil | exact Pick.rfl' _ | exact Pick.skip (Pick.rfl' _) | exact Pick.skip (Pick.skip (Pick.rfl' _)) | (apply Pick.cons; focus (first | exact .head | exact (.tail .head) | exact (.tail (.tail .head)) | exact (.tail (.tail (.tail .head))) | exact (.tail (.tail (.tail (.tail .head)))) | exact (.tail (.tail (.tail (.tail (.tail .head))))) | exact (.tail (.tail (.tail (.tail (.tail (.tail .head)))))) | exact (.tail (.tail (.tail (.tail (.tail (.tail (.tail .head))))))) | exact (.tail (.tail (.tail (.tail (.tail (.tail (.tail (.tail .head)))))))) | exact (.tail (.tail (.tail (.tail (.tail (.tail (.tail (.tail (.tail .head))))))))) | exact (.tail (.tail (.tail (.tail (.tail (.tail (.tail (.tail (.tail (.tail .head)))))))))) | exact (.tail (.tail (.tail (.tail (.tail (.tail (.tail (.tail (.tail (.tail (.tail .head))))))))))) | exact (.tail (.tail (.tail (.tail (.tail (.tail (.tail (.tail (.tail (.tail (.tail (.tail .head)))))))))))) | exact (.tail (.tail (.tail (.tail (.tail (.tail (.tail (.tail (.tail (.tail (.tail (.tail (.tail .head))))))))))))))))) ?_
  · -- start
    refine ⟨by simp, by simp only; omega, ?_, .inl ⟨rfl, rfl, rfl, rfl⟩, by simp, by simp⟩
    have h := hs.drop c 8 1 (by rw [len_B]; omega)
    have e : (B bs).drop (8 * 1) = B (bs.drop 8) := by simp [B, List.map_drop]
    rw [e] at h
    exact h
  intro i ⟨hrl, hrc, hr, hO, h8, hk⟩
  (repeat (with_reducible refine G_seq ?_))
  refine G_region ?_
  refine GL_y rfl rfl (Y_move rfl) ?_
  refine GL_y rfl rfl (Y_len sl24 rfl) ?_
  refine GL_y rfl rfl (Y_geqN (b := 37) rfl rfl) ?_
  refine GL_y rfl rfl (Y_move rfl) ?_
  refine GL_bool 19 rfl (fun g19 => ?_) (fun g19 => ?_)
  · -- g19 True
    refine GL_y rfl rfl (Y_move rfl) ?_
    refine GL_y rfl rfl (Y_len sl22 rfl) ?_
    refine GL_y rfl rfl (Y_lssN (b := 8) rfl rfl) ?_
    refine GL_y rfl rfl (Y_pick rfl rfl rfl rfl) ?_
    refine GL_nil ?_
    (repeat (first | (with_reducible refine R_seq ?_) | (with_reducible refine R_block_normal ?_)))
    (repeat (with_reducible refine G_seq ?_))
    refine G_cond rfl (fun h23 => ?_) (fun h23 => ?_)
    · -- yes
      (repeat (with_reducible refine G_seq ?_))
      refine G_skip ?_
      (repeat (first | (with_reducible refine R_seq ?_) | (with_reducible refine R_block_normal ?_)))
      (repeat (with_reducible refine G_seq ?_))
      refine G_block ?_
      have h37 : 37 ≤ i.rest.length := by have h := of_decide_eq_true g19; omega
      obtain ⟨x0, hx0⟩ : ∃ u, i.rest[0]? = some u := ⟨i.rest[0], List.getElem?_eq_getElem (by omega)⟩
      have hb0 := x0.toNat_lt
      obtain ⟨x1, hx1⟩ : ∃ u, i.rest[1]? = some u := ⟨i.rest[1], List.getElem?_eq_getElem (by omega)⟩
      have hb1 := x1.toNat_lt
      obtain ⟨x2, hx2⟩ : ∃ u, i.rest[2]? = some u := ⟨i.rest[2], List.getElem?_eq_getElem (by omega)⟩
      have hb2 := x2.toNat_lt
      obtain ⟨x3, hx3⟩ : ∃ u, i.rest[3]? = some u := ⟨i.rest[3], List.getElem?_eq_getElem (by omega)⟩
      have hb3 := x3.toNat_lt
      obtain ⟨x36, hx36⟩ : ∃ u, i.rest[36]? = some u := ⟨i.rest[36], List.getElem?_eq_getElem (by omega)⟩
      have hb36 := x36.toNat_lt
      have hkey : keyOf i.rest = ⟨(num4 x0 x1 x2 x3 : Nat), (keyOf i.rest).bytes, (keyOf i.rest).len, decide (x36 = 1)⟩ := by
        refine keyD_ext ?_ rfl ?_
        · show ((num4 (bAt i.rest 0) (bAt i.rest 1) (bAt i.rest 2) (bAt i.rest 3) : Nat) : Int) = _
          rw [bAt_of hx0, bAt_of hx1, bAt_of hx2, bAt_of hx3]
        · show decide (bAt i.rest 36 = 1) = _
          rw [bAt_of hx36]
      have hlt8 : i.ring.length < 8 := of_decide_eq_true h23
      (repeat (with_reducible refine G_seq ?_))
      refine G_draw [33] 35 rfl (by kernel_rfl) ?_
      refine GA_y 0 rfl (by kernel_rfl) (by kernel_rfl) (by kernel_rfl) (fun _ _ _ h => h) rfl rfl rfl (Y_move rfl) ?_
      refine GA_y 1 rfl (by kernel_rfl) (by kernel_rfl) (by kernel_rfl) (fun _ _ _ h => h) rfl rfl rfl (Y_move rfl) ?_
      refine GA_y 2 rfl (by kernel_rfl) (by kernel_rfl) (by kernel_rfl) (fun _ _ _ h => h) rfl rfl rfl (Y_bAt (j := 0) hr rfl rfl hx0 hrl) ?_
      refine GA_y 3 rfl (by kernel_rfl) (by kernel_rfl) (by kernel_rfl) (fun _ _ _ h => h) rfl rfl rfl (Y_bGet (j := 0) hr (by simp) rfl hx0) ?_
      refine GA_y 4 rfl (by kernel_rfl) (by kernel_rfl) (by kernel_rfl) (fun _ _ _ h => h) rfl rfl rfl (Y_ofByte Try.underlying5 Try.underlying3 (by decide) rfl) ?_
      refine GA_y 5 rfl (by kernel_rfl) (by kernel_rfl) (by kernel_rfl) (fun _ _ _ h => h) rfl rfl rfl (Y_move rfl) ?_
      refine GA_y 6 rfl (by kernel_rfl) (by kernel_rfl) (by kernel_rfl) (fun _ _ _ h => h) rfl rfl rfl (Y_bAt (j := 1) hr rfl rfl hx1 hrl) ?_
      refine GA_y 7 rfl (by kernel_rfl) (by kernel_rfl) (by kernel_rfl) (fun _ _ _ h => h) rfl rfl rfl (Y_bGet (j := 1) hr (by simp) rfl hx1) ?_
      refine GA_y 8 rfl (by kernel_rfl) (by kernel_rfl) (by kernel_rfl) (fun _ _ _ h => h) rfl rfl rfl (Y_ofByte Try.underlying5 Try.underlying3 (by decide) rfl) ?_
      refine GA_y 9 rfl (by kernel_rfl) (by kernel_rfl) (by kernel_rfl) (fun _ _ _ h => h) rfl rfl rfl (Y_shlN (b := 8) rfl rfl (by decide) (by omega)) ?_
      refine GA_y 10 rfl (by kernel_rfl) (by kernel_rfl) (by kernel_rfl) (fun _ _ _ h => h) rfl rfl rfl (Y_orN rfl rfl (by omega) (by omega)) ?_
      refine GA_y 11 rfl (by kernel_rfl) (by kernel_rfl) (by kernel_rfl) (fun _ _ _ h => h) rfl rfl rfl (Y_move rfl) ?_
      refine GA_y 12 rfl (by kernel_rfl) (by kernel_rfl) (by kernel_rfl) (fun _ _ _ h => h) rfl rfl rfl (Y_bAt (j := 2) hr rfl rfl hx2 hrl) ?_
      refine GA_y 13 rfl (by kernel_rfl) (by kernel_rfl) (by kernel_rfl) (fun _ _ _ h => h) rfl rfl rfl (Y_bGet (j := 2) hr (by simp) rfl hx2) ?_
      refine GA_y 14 rfl (by kernel_rfl) (by kernel_rfl) (by kernel_rfl) (fun _ _ _ h => h) rfl rfl rfl (Y_ofByte Try.underlying5 Try.underlying3 (by decide) rfl) ?_
      refine GA_y 15 rfl (by kernel_rfl) (by kernel_rfl) (by kernel_rfl) (fun _ _ _ h => h) rfl rfl rfl (Y_shlN (b := 16) rfl rfl (by decide) (by omega)) ?_
      refine GA_y 16 rfl (by kernel_rfl) (by kernel_rfl) (by kernel_rfl) (fun _ _ _ h => h) rfl rfl rfl (Y_orN rfl rfl (by omega) (by omega)) ?_
      refine GA_y 17 rfl (by kernel_rfl) (by kernel_rfl) (by kernel_rfl) (fun _ _ _ h => h) rfl rfl rfl (Y_move rfl) ?_
      refine GA_y 18 rfl (by kernel_rfl) (by kernel_rfl) (by kernel_rfl) (fun _ _ _ h => h) rfl rfl rfl (Y_bAt (j := 3) hr rfl rfl hx3 hrl) ?_
      refine GA_y 19 rfl (by kernel_rfl) (by kernel_rfl) (by kernel_rfl) (fun _ _ _ h => h) rfl rfl rfl (Y_bGet (j := 3) hr (by simp) rfl hx3) ?_
      refine GA_y 20 rfl (by kernel_rfl) (by kernel_rfl) (by kernel_rfl) (fun _ _ _ h => h) rfl rfl rfl (Y_ofByte Try.underlying5 Try.underlying3 (by decide) rfl) ?_
      refine GA_y 21 rfl (by kernel_rfl) (by kernel_rfl) (by kernel_rfl) (fun _ _ _ h => h) rfl rfl rfl (Y_shlN (b := 24) rfl rfl (by decide) (by omega)) ?_
      refine GA_y 22 rfl (by kernel_rfl) (by kernel_rfl) (by kernel_rfl) (fun _ _ _ h => h) rfl rfl rfl (Y_orN rfl rfl (by omega) (by omega)) ?_
      refine GA_y 23 rfl (by kernel_rfl) (by kernel_rfl) (by kernel_rfl) (fun _ _ _ h => h) rfl rfl rfl (Y_move rfl) ?_
      refine GA_y 24 rfl (by kernel_rfl) (by kernel_rfl) (by kernel_rfl) (fun _ _ _ h => h) rfl rfl rfl (Y_sl32 hr h37 rfl hrl hrc) ?_
      refine GA_y 25 rfl (by kernel_rfl) (by kernel_rfl) (by kernel_rfl) (fun _ _ _ h => h) rfl rfl rfl (Y_s2a Try.underlying28 rfl (by decide)) ?_
      refine GA_y 26 rfl (by kernel_rfl) (by kernel_rfl) (by kernel_rfl) (fun _ _ _ h => h) rfl rfl rfl (Y_ld32 hr (by simp) h37 rfl) ?_
      refine GA_y 27 rfl (by kernel_rfl) (by kernel_rfl) (by kernel_rfl) (fun _ _ _ h => h) rfl rfl rfl (Y_move rfl) ?_
      refine GA_y 28 rfl (by kernel_rfl) (by kernel_rfl) (by kernel_rfl) (fun _ _ _ h => h) rfl rfl rfl (Y_bAt (j := 36) hr rfl rfl hx36 hrl) ?_
      refine GA_y 29 rfl (by kernel_rfl) (by kernel_rfl) (by kernel_rfl) (fun _ _ _ h => h) rfl rfl rfl (Y_bGet (j := 36) hr (by simp) rfl hx36) ?_
      refine GA_y 30 rfl (by kernel_rfl) (by kernel_rfl) (by kernel_rfl) (fun _ _ _ h => h) rfl rfl rfl ((Y_iop rfl rfl rfl).as (.bool (decide (x36 = 1))) (congrArg Value.bool (decide_eq_decide.2 ⟨fun h => UInt8.toNat_inj.1 (by have h' : (x36.toNat : Int) = 1 := h; show x36.toNat = 1; omega), fun h => by rw [h]; rfl⟩))) ?_
      refine GA_y 31 rfl (by kernel_rfl) (by kernel_rfl) (by kernel_rfl) (fun _ _ _ h => h) rfl rfl rfl (Y_build (v := .agg (keyL (keyOf i.rest)).toArray) (vs := [(0, .int .i64 (num4 x0 x1 x2 x3 : Nat)), (1, .agg (B (keyOf i.rest).bytes).toArray), (2, .bool (decide (x36 = 1)))]) rfl (fun w => by rw [hkey]; exact build39 ⟨(num4 x0 x1 x2 x3 : Nat), (keyOf i.rest).bytes, (keyOf i.rest).len, decide (x36 = 1)⟩ w)) ?_
      refine GA_one 32 (by kernel_rfl) ?_
      refine GO_w rfl rfl rfl rfl (W_bs1 (xs := keyL (keyOf i.rest)) Try.underlying22 el39 rfl (keyL_len _) (by decide) (by decide) fun b58 => ⟨⟨_, by repeat (first | exact .nil | exact Pick.rfl' _ | exact Pick.skip (Pick.rfl' _) | exact Pick.skip (Pick.skip (Pick.rfl' _)) | (apply Pick.cons; focus (first | exact .head | exact (.tail .head) | exact (.tail (.tail .head)) | exact (.tail (.tail (.tail .head))) | exact (.tail (.tail (.tail (.tail .head)))) | exact (.tail (.tail (.tail (.tail (.tail .head))))) | exact (.tail (.tail (.tail (.tail (.tail (.tail .head)))))) | exact (.tail (.tail (.tail (.tail (.tail (.tail (.tail .head))))))) | exact (.tail (.tail (.tail (.tail (.tail (.tail (.tail (.tail .head)))))))) | exact (.tail (.tail (.tail (.tail (.tail (.tail (.tail (.tail (.tail .head))))))))) | exact (.tail (.tail (.tail (.tail (.tail (.tail (.tail (.tail (.tail (.tail .head)))))))))) | exact (.tail (.tail (.tail (.tail (.tail (.tail (.tail (.tail (.tail (.tail (.tail .head))))))))))) | exact (.tail (.tail (.tail (.tail (.tail (.tail (.tail (.tail (.tail (.tail (.tail (.tail .head)))))))))))) | exact (.tail (.tail (.tail (.tail (.tail (.tail (.tail (.tail (.tail (.tail (.tail (.tail (.tail .head))))))))))))))))⟩, ?_⟩)
      refine GA_one 33 (by kernel_rfl) ?_
      refine GO_wt rfl rfl rfl rfl (W_appKey (kd := keyOf i.rest) hO rfl rfl rfl (by omega) (.skip (Pick.rfl' _)) (by first | exact .head _ | exact .tail _ (.head _) | exact .tail _ (.tail _ (.head _)) | exact .tail _ (.tail _ (.tail _ (.head _))) | exact .tail _ (.tail _ (.tail _ (.tail _ (.head _)))) | exact .tail _ (.tail _ (.tail _ (.tail _ (.tail _ (.head _))))) | exact .tail _ (.tail _ (.tail _ (.tail _ (.tail _ (.tail _ (.head _)))))) | exact .tail _ (.tail _ (.tail _ (.tail _ (.tail _ (.tail _ (.tail _ (.head _))))))) | exact .tail _ (.tail _ (.tail _ (.tail _ (.tail _ (.tail _ (.tail _ (.tail _ (.head _)))))))) | exact .tail _ (.tail _ (.tail _ (.tail _ (.tail _ (.tail _ (.tail _ (.tail _ (.tail _ (.head _))))))))) | exact .tail _ (.tail _ (.tail _ (.tail _ (.tail _ (.tail _ (.tail _ (.tail _ (.tail _ (.tail _ (.head _)))))))))) | exact .tail _ (.tail _ (.tail _ (.tail _ (.tail _ (.tail _ (.tail _ (.tail _ (.tail _ (.tail _ (.tail _ (.head _))))))))))) | exact .tail _ (.tail _ (.tail _ (.tail _ (.tail _ (.tail _ (.tail _ (.tail _ (.tail _ (.tail _ (.tail _ (.tail _ (.head _)))))))))))) | exact .tail _ (.tail _ (.tail _ (.tail _ (.tail _ (.tail _ (.tail _ (.tail _ (.tail _ (.tail _ (.tail _ (.tail _ (.tail _ (.head _)))))))))))))) fun b59 c59 => ?_)
      refine GA_y 34 rfl (by kernel_rfl) (by kernel_rfl) (by kernel_rfl) (fun _ _ _ h => h) rfl rfl rfl (Y_assign rfl) ?_
      refine GA_done (by kernel_rfl) ?_
      (repeat (first | (with_reducible refine R_seq ?_) | (with_reducible refine R_block_normal ?_)))
      (repeat (with_reducible refine G_seq ?_))
      refine G_region ?_
      refine GL_y rfl rfl (Y_move rfl) ?_
      refine GL_y rfl rfl (Y_slS (vl := some _) (vh := none) (kl := 37) (kh := i.rl) sl24 rfl rfl rfl ⟨_, rfl⟩ rfl (by omega) hrc hrc) ?_
      refine GL_y rfl rfl (Y_assign rfl) ?_
      refine GL_nil ?_
      (repeat (first | (with_reducible refine R_seq ?_) | (with_reducible refine R_block_normal ?_)))
      (repeat (with_reducible refine R_block_normal ?_))
      refine R_fam ⟨some ⟨b59, 0, none⟩, c59, [⟨b59, 39, c59 * 34, ringL (i.ring ++ [keyOf i.rest]), (0, 0)⟩], i.ring ++ [keyOf i.rest], subA i.ra i.rc 37 1, i.rl - 37, i.rc - 37, i.rest.drop 37⟩ ?_ (⟨by first | rfl | decide, by first | rfl | decide, by first | rfl | decide, by first | rfl | decide, by first | rfl | decide, by first | rfl | decide, trivial⟩) (by repeat (first | exact .nil | exact Pick.rfl' _ | exact Pick.skip (Pick.rfl' _) | exact Pick.skip (Pick.skip (Pick.rfl' _)) | (apply Pick.cons; focus (first | exact .head | exact (.tail .head) | exact (.tail (.tail .head)) | exact (.tail (.tail (.tail .head))) | exact (.tail (.tail (.tail (.tail .head)))) | exact (.tail (.tail (.tail (.tail (.tail .head))))) | exact (.tail (.tail (.tail (.tail (.tail (.tail .head)))))) | exact (.tail (.tail (.tail (.tail (.tail (.tail (.tail .head))))))) | exact (.tail (.tail (.tail (.tail (.tail (.tail (.tail (.tail .head)))))))) | exact (.tail (.tail (.tail (.tail (.tail (.tail (.tail (.tail (.tail .head))))))))) | exact (.tail (.tail (.tail (.tail (.tail (.tail (.tail (.tail (.tail (.tail .head)))))))))) | exact (.tail (.tail (.tail (.tail (.tail (.tail (.tail (.tail (.tail (.tail (.tail .head))))))))))) | exact (.tail (.tail (.tail (.tail (.tail (.tail (.tail (.tail (.tail (.tail (.tail (.tail .head)))))))))))) | exact (.tail (.tail (.tail (.tail (.tail (.tail (.tail (.tail (.tail (.tail (.tail (.tail (.tail .head)))))))))))))))))
      refine ⟨⟨by simp only [List.length_drop]; omega, by simp only; omega, ?_, .inr ⟨b59, rfl, rfl⟩, by simp only [List.length_append, List.length_singleton]; omega, keysOf_app hk hlt8 h37⟩, by simp only; omega⟩
      have h := hr.drop i.rc 37 1 (by rw [len_B]; omega)
      have e : (B i.rest).drop (37 * 1) = B (i.rest.drop 37) := by simp [B, List.map_drop]
      rw [e] at h
      exact h
    · -- no
      (repeat (with_reducible refine G_seq ?_))
      refine G_exit ?_
      (repeat (first | (with_reducible refine R_then_exit ?_) | (with_reducible refine R_block_exit ?_) | (with_reducible refine R_block_other (by decide) ?_)))
      (repeat (first | (with_reducible refine R_seq ?_) | (with_reducible refine R_block_normal ?_)))
      have hstop : ¬ (37 ≤ i.rl ∧ i.ring.length < 8) := fun h => by have h1 := of_decide_eq_false h23; omega
      have hks : keysOf 8 (bs.drop 8) = i.ring := by
        rw [hk, keysOf_end (by omega)]; simp
      rw [hks] at hm
      rw [hks] at hb
      (repeat (with_reducible refine G_seq ?_))
      refine G_region ?_
      refine GL_y rfl rfl (Y_move rfl) ?_
      refine GL_call rfl rfl rfl rfl Try.call9 .nil (fun w hw => bytes_ok (hO.sl hw) (by omega) hm) ?_
      rintro _ _ ⟨b62, c62, _, rfl, rfl⟩
      refine GL_y rfl rfl (Y_move rfl) ?_
      refine GL_y rfl rfl (Y_extract rfl rfl) ?_
      refine GL_y rfl rfl (Y_extract rfl rfl) ?_
      refine GL_y rfl rfl (Y_assign rfl) ?_
      refine GL_y rfl rfl (Y_assign rfl) ?_
      refine GL_nil ?_
      (repeat (first | (with_reducible refine R_seq ?_) | (with_reducible refine R_block_normal ?_)))
      (repeat (with_reducible refine G_seq ?_))
      refine G_region ?_
      refine GL_y rfl rfl (Y_move rfl) ?_
      refine GL_y rfl rfl (Y_iop (v := .bool false) rfl rfl rfl) ?_
      refine GL_y rfl rfl (Y_move rfl) ?_
      refine GL_y rfl rfl (Y_move rfl) ?_
      refine GL_y rfl rfl (Y_move rfl) ?_
      refine GL_call rfl rfl rfl rfl Try.call24 .nil (fun w hw => equal_is (SlAt.mk' (hw.cells (k := ⟨b62, 5, c62 * 1, B (bytesD i.ring), (0, 0)⟩) (by first | exact .head _ | exact .tail _ (.head _) | exact .tail _ (.tail _ (.head _)) | exact .tail _ (.tail _ (.tail _ (.head _))) | exact .tail _ (.tail _ (.tail _ (.tail _ (.head _)))) | exact .tail _ (.tail _ (.tail _ (.tail _ (.tail _ (.head _))))) | exact .tail _ (.tail _ (.tail _ (.tail _ (.tail _ (.tail _ (.head _)))))) | exact .tail _ (.tail _ (.tail _ (.tail _ (.tail _ (.tail _ (.tail _ (.head _))))))) | exact .tail _ (.tail _ (.tail _ (.tail _ (.tail _ (.tail _ (.tail _ (.tail _ (.head _)))))))) | exact .tail _ (.tail _ (.tail _ (.tail _ (.tail _ (.tail _ (.tail _ (.tail _ (.tail _ (.head _))))))))) | exact .tail _ (.tail _ (.tail _ (.tail _ (.tail _ (.tail _ (.tail _ (.tail _ (.tail _ (.tail _ (.head _)))))))))) | exact .tail _ (.tail _ (.tail _ (.tail _ (.tail _ (.tail _ (.tail _ (.tail _ (.tail _ (.tail _ (.tail _ (.head _))))))))))) | exact .tail _ (.tail _ (.tail _ (.tail _ (.tail _ (.tail _ (.tail _ (.tail _ (.tail _ (.tail _ (.tail _ (.tail _ (.head _)))))))))))) | exact .tail _ (.tail _ (.tail _ (.tail _ (.tail _ (.tail _ (.tail _ (.tail _ (.tail _ (.tail _ (.tail _ (.tail _ (.tail _ (.head _)))))))))))))))) (hs.keep hw (by simp)) rfl rfl) ?_
      rintro _ _ ⟨rfl, rfl⟩
      refine GL_y rfl rfl (Y_not rfl) ?_
      refine GL_y rfl rfl (Y_pick rfl rfl rfl rfl) ?_
      refine GL_nil ?_
      (repeat (first | (with_reducible refine R_seq ?_) | (with_reducible refine R_block_normal ?_)))
      (repeat (with_reducible refine G_seq ?_))
      refine G_cond_t rfl (by simp [hb]) ?_
      (repeat (with_reducible refine G_seq ?_))
      refine G_region ?_
      refine GL_y rfl rfl (Y_assign rfl) ?_
      refine GL_y rfl rfl (Y_assign rfl) ?_
      refine GL_nil ?_
      (repeat (first | (with_reducible refine R_seq ?_) | (with_reducible refine R_block_normal ?_)))
      (repeat (with_reducible refine G_seq ?_))
      refine G_ret ?_
      (repeat (first | (with_reducible refine R_then_ret ?_) | (with_reducible refine R_block_ret ?_)))
      refine R_ret (.tmp rfl (.tmp rfl .nil)) [] .nil ⟨rfl, rfl⟩
  · -- g19 False
    refine GL_skip rfl rfl ?_
    refine GL_skip rfl rfl ?_
    refine GL_skip rfl rfl ?_
    refine GL_y rfl rfl (Y_pick rfl rfl rfl rfl) ?_
    refine GL_nil ?_
    (repeat (first | (with_reducible refine R_seq ?_) | (with_reducible refine R_block_normal ?_)))
    (repeat (with_reducible refine G_seq ?_))
    refine G_cond_f rfl (by first | rfl | decide | (simp; done) | (simp; omega)) ?_
    (repeat (with_reducible refine G_seq ?_))
    refine G_exit ?_
    (repeat (first | (with_reducible refine R_then_exit ?_) | (with_reducible refine R_block_exit ?_) | (with_reducible refine R_block_other (by decide) ?_)))
    (repeat (first | (with_reducible refine R_seq ?_) | (with_reducible refine R_block_normal ?_)))
    have hstop : ¬ (37 ≤ i.rl ∧ i.ring.length < 8) := fun h => absurd h.1 (by have h1 := of_decide_eq_false g19; omega)
    have hks : keysOf 8 (bs.drop 8) = i.ring := by
      rw [hk, keysOf_end (by omega)]; simp
    rw [hks] at hm
    rw [hks] at hb
    (repeat (with_reducible refine G_seq ?_))
    refine G_region ?_
    refine GL_y rfl rfl (Y_move rfl) ?_
    refine GL_call rfl rfl rfl rfl Try.call9 .nil (fun w hw => bytes_ok (hO.sl hw) (by omega) hm) ?_
    rintro _ _ ⟨b62, c62, _, rfl, rfl⟩
    refine GL_y rfl rfl (Y_move rfl) ?_
    refine GL_y rfl rfl (Y_extract rfl rfl) ?_
    refine GL_y rfl rfl (Y_extract rfl rfl) ?_
    refine GL_y rfl rfl (Y_assign rfl) ?_
    refine GL_y rfl rfl (Y_assign rfl) ?_
    refine GL_nil ?_
    (repeat (first | (with_reducible refine R_seq ?_) | (with_reducible refine R_block_normal ?_)))
    (repeat (with_reducible refine G_seq ?_))
    refine G_region ?_
    refine GL_y rfl rfl (Y_move rfl) ?_
    refine GL_y rfl rfl (Y_iop (v := .bool false) rfl rfl rfl) ?_
    refine GL_y rfl rfl (Y_move rfl) ?_
    refine GL_y rfl rfl (Y_move rfl) ?_
    refine GL_y rfl rfl (Y_move rfl) ?_
    refine GL_call rfl rfl rfl rfl Try.call24 .nil (fun w hw => equal_is (SlAt.mk' (hw.cells (k := ⟨b62, 5, c62 * 1, B (bytesD i.ring), (0, 0)⟩) (by first | exact .head _ | exact .tail _ (.head _) | exact .tail _ (.tail _ (.head _)) | exact .tail _ (.tail _ (.tail _ (.head _))) | exact .tail _ (.tail _ (.tail _ (.tail _ (.head _)))) | exact .tail _ (.tail _ (.tail _ (.tail _ (.tail _ (.head _))))) | exact .tail _ (.tail _ (.tail _ (.tail _ (.tail _ (.tail _ (.head _)))))) | exact .tail _ (.tail _ (.tail _ (.tail _ (.tail _ (.tail _ (.tail _ (.head _))))))) | exact .tail _ (.tail _ (.tail _ (.tail _ (.tail _ (.tail _ (.tail _ (.tail _ (.head _)))))))) | exact .tail _ (.tail _ (.tail _ (.tail _ (.tail _ (.tail _ (.tail _ (.tail _ (.tail _ (.head _))))))))) | exact .tail _ (.tail _ (.tail _ (.tail _ (.tail _ (.tail _ (.tail _ (.tail _ (.tail _ (.tail _ (.head _)))))))))) | exact .tail _ (.tail _ (.tail _ (.tail _ (.tail _ (.tail _ (.tail _ (.tail _ (.tail _ (.tail _ (.tail _ (.head _))))))))))) | exact .tail _ (.tail _ (.tail _ (.tail _ (.tail _ (.tail _ (.tail _ (.tail _ (.tail _ (.tail _ (.tail _ (.tail _ (.head _)))))))))))) | exact .tail _ (.tail _ (.tail _ (.tail _ (.tail _ (.tail _ (.tail _ (.tail _ (.tail _ (.tail _ (.tail _ (.tail _ (.tail _ (.head _)))))))))))))))) (hs.keep hw (by simp)) rfl rfl) ?_
    rintro _ _ ⟨rfl, rfl⟩
    refine GL_y rfl rfl (Y_not rfl) ?_
    refine GL_y rfl rfl (Y_pick rfl rfl rfl rfl) ?_
    refine GL_nil ?_
    (repeat (first | (with_reducible refine R_seq ?_) | (with_reducible refine R_block_normal ?_)))
    (repeat (with_reducible refine G_seq ?_))
    refine G_cond_t rfl (by simp [hb]) ?_
    (repeat (with_reducible refine G_seq ?_))
    refine G_region ?_
    refine GL_y rfl rfl (Y_assign rfl) ?_
    refine GL_y rfl rfl (Y_assign rfl) ?_
    refine GL_nil ?_
    (repeat (first | (with_reducible refine R_seq ?_) | (with_reducible refine R_block_normal ?_)))
    (repeat (with_reducible refine G_seq ?_))
    refine G_ret ?_
    (repeat (first | (with_reducible refine R_then_ret ?_) | (with_reducible refine R_block_ret ?_)))
    refine R_ret (.tmp rfl (.tmp rfl .nil)) [] .nil ⟨rfl, rfl⟩
set_option maxHeartbeats 4000000 in
theorem parse_ok0 {ao : Option Addr} {c : Nat} {bs : List UInt8} {w : World} (hs : SlAt w ao (B bs)) (hc : bs.length ≤ c) (hl : bs.length ≤ 1000) (h8 : 8 ≤ bs.length) (hm : mayB (keysOf 8 (bs.drop 8)) = true) (hb : bytesD (keysOf 8 (bs.drop 8)) = bs) : FnAt Try.prog 17 [.slice ao bs.length c] [] w (Ret fun v N => ∃ ao' c', v = .tuple #[.slice ao' (keysOf 8 (bs.drop 8)).length c', .int .i64 0] ∧ Own N ao' c' (keysOf 8 (bs.drop 8))) := by
  refine FnAt.intro Try.func17 rfl Try.ntmps17 rfl _ rfl ?_
  (repeat (with_reducible refine G_seq ?_))
  refine G_region ?_
  refine GL_y rfl rfl (Y_assign rfl) ?_
  refine GL_y rfl rfl (Y_assign rfl) ?_
  refine GL_nil ?_
  (repeat (first | (with_reducible refine R_seq ?_) | (with_reducible refine R_block_normal ?_)))
  (repeat (with_reducible refine G_seq ?_))
  refine G_region ?_
  refine GL_y rfl rfl (Y_assign rfl) ?_
  refine GL_nil ?_
  (repeat (first | (with_reducible refine R_seq ?_) | (with_reducible refine R_block_normal ?_)))
  (repeat (with_reducible refine G_seq ?_))
  refine G_region ?_
  refine GL_y rfl rfl (Y_move rfl) ?_
  refine GL_y rfl rfl (Y_len sl24 rfl) ?_
  refine GL_y rfl rfl (Y_move rfl) ?_
  refine GL_y rfl rfl (Y_lssN rfl rfl) ?_
  refine GL_nil ?_
  (repeat (first | (with_reducible refine R_seq ?_) | (with_reducible refine R_block_normal ?_)))
  (repeat (with_reducible refine G_seq ?_))
  refine G_cond_f rfl (by simp; omega) ?_
  (repeat (with_reducible refine G_seq ?_))
  refine G_skip ?_
  (repeat (first | (with_reducible refine R_seq ?_) | (with_reducible refine R_block_normal ?_)))
  (repeat (with_reducible refine G_seq ?_))
  refine G_region ?_
  refine GL_y rfl rfl (Y_assign rfl) ?_
  refine GL_nil ?_
  (repeat (first | (with_reducible refine R_seq ?_) | (with_reducible refine R_block_normal ?_)))
  (repeat (with_reducible refine G_seq ?_))
  refine G_region ?_
  refine GL_y rfl rfl (Y_move rfl) ?_
  refine GL_y rfl rfl (Y_move rfl) ?_
  refine GL_y rfl rfl (Y_slS (vl := some _) (vh := none) (kl := 8) (kh := bs.length) sl24 rfl rfl rfl ⟨_, rfl⟩ rfl (by omega) hc hc) ?_
  refine GL_y rfl rfl (Y_assign rfl) ?_
  refine GL_nil ?_
  (repeat (first | (with_reducible refine R_seq ?_) | (with_reducible refine R_block_normal ?_)))
  (repeat (with_reducible refine G_seq ?_))
  refine G_block ?_
  (repeat (with_reducible refine G_seq ?_))
  refine G_loop (ι := PI) (fun i => i.rl) (fun i => i.rl = i.rest.length ∧ i.rl ≤ i.rc ∧ SlAt w i.ra (B i.rest) ∧ Own i.N i.ao i.c i.ring ∧ i.ring.length ≤ 8 ∧ keysOf 8 (bs.drop 8) = i.ring ++ keysOf (8 - i.ring.length) i.rest) (fun i => [(0, .slice ao bs.length c), (2, .slice none 0 0), (3, .int .i64 0), (4, .int .i64 8), (5, .slice i.ao i.ring.length i.c), (6, .slice i.ra i.rl i.rc)]) (fun i => i.N) ⟨none, 0, [], [], subA ao c 8 1, bs.length - 8, c - 8, bs.drop 8⟩ ?_ (⟨by first | rfl | decide, by first | rfl | decide, by first | rfl | decide, by first | rfl | decide, by first | rfl | decide, by first | rfl | decide, trivial⟩) (by repeat (first | exact .nil | exact Pick.rfl' _ | exact Pick.skip (Pick.rfl' _) | exact Pick.skip (Pick.skip (Pick.rfl' _)) | (apply Pick.cons; focus (first | exact .head | exact (.tail .head) | exact (.tail (.tail .head)) | exact (.tail (.tail (.tail .head))) | exact (.tail (.tail (.tail (.tail .head)))) | exact (.tail (.tail (.tail (.tail (.tail .head))))) | exact (.tail (.tail (.tail (.tail (.tail (.tail .head)))))) | exact (.tail (.tail (.tail (.tail (.tail (.tail (.tail .head))))))) | exact (.tail (.tail (.tail (.tail (.tail (.tail (.tail (.tail .head)))))))) | exact (.tail (.tail (.tail (.tail (.tail (.tail (.tail (.tail (.tail .head))))))))) | exact (.tail (.tail (.tail (.tail (.tail (.tail (.tail (.tail (.tail (.tail .head)))))))))) | exact (.tail (.tail (.tail (.tail (.tail (.tail (.tail (.tail (.tail (.tail (.tail .head))))))))))) | exact (.tail (.tail (.tail (.tail (.tail (.tail (.tail (.tail (.tail (.tail (.tail (.tail .head)))))))))))) | exact (.tail (.tail (.tail (.tail (.tail (.tail (.tail (.tail (.tail (.tail (.tail (.tail (.tail .head))))))))))))))))) ?_
  · -- start
    refine ⟨by simp, by simp only; omega, ?_, .inl ⟨rfl, rfl, rfl, rfl⟩, by simp, by simp⟩
    have h := hs.drop c 8 1 (by rw [len_B]; omega)
    have e : (B bs).drop (8 * 1) = B (bs.drop 8) := by simp [B, List.map_drop]
    rw [e] at h
    exact h
  intro i ⟨hrl, hrc, hr, hO, h8, hk⟩
  (repeat (with_reducible refine G_seq ?_))
  refine G_region ?_
  refine GL_y rfl rfl (Y_move rfl) ?_
  refine GL_y rfl rfl (Y_len sl24 rfl) ?_
  refine GL_y rfl rfl (Y_geqN (b := 37) rfl rfl) ?_
  refine GL_y rfl rfl (Y_move rfl) ?_
  refine GL_bool 19 rfl (fun g19 => ?_) (fun g19 => ?_)
  · -- g19 True
    refine GL_y rfl rfl (Y_move rfl) ?_
    refine GL_y rfl rfl (Y_len sl22 rfl) ?_
    refine GL_y rfl rfl (Y_lssN (b := 8) rfl rfl) ?_
    refine GL_y rfl rfl (Y_pick rfl rfl rfl rfl) ?_
    refine GL_nil ?_
    (repeat (first | (with_reducible refine R_seq ?_) | (with_reducible refine R_block_normal ?_)))
    (repeat (with_reducible refine G_seq ?_))
    refine G_cond rfl (fun h23 => ?_) (fun h23 => ?_)
    · -- yes
      (repeat (with_reducible refine G_seq ?_))
      refine G_skip ?_
      (repeat (first | (with_reducible refine R_seq ?_) | (with_reducible refine R_block_normal ?_)))
      (repeat (with_reducible refine G_seq ?_))
      refine G_block ?_
      have h37 : 37 ≤ i.rest.length := by have h := of_decide_eq_true g19; omega
      obtain ⟨x0, hx0⟩ : ∃ u, i.rest[0]? = some u := ⟨i.rest[0], List.getElem?_eq_getElem (by omega)⟩
      have hb0 := x0.toNat_lt
      obtain ⟨x1, hx1⟩ : ∃ u, i.rest[1]? = some u := ⟨i.rest[1], List.getElem?_eq_getElem (by omega)⟩
      have hb1 := x1.toNat_lt
      obtain ⟨x2, hx2⟩ : ∃ u, i.rest[2]? = some u := ⟨i.rest[2], List.getElem?_eq_getElem (by omega)⟩
      have hb2 := x2.toNat_lt
      obtain ⟨x3, hx3⟩ : ∃ u, i.rest[3]? = some u := ⟨i.rest[3], List.getElem?_eq_getElem (by omega)⟩
      have hb3 := x3.toNat_lt
      obtain ⟨x36, hx36⟩ : ∃ u, i.rest[36]? = some u := ⟨i.rest[36], List.getElem?_eq_getElem (by omega)⟩
      have hb36 := x36.toNat_lt
      have hkey : keyOf i.rest = ⟨(num4 x0 x1 x2 x3 : Nat), (keyOf i.rest).bytes, (keyOf i.rest).len, decide (x36 = 1)⟩ := by
        refine keyD_ext ?_ rfl ?_
        · show ((num4 (bAt i.rest 0) (bAt i.rest 1) (bAt i.rest 2) (bAt i.rest 3) : Nat) : Int) = _
          rw [bAt_of hx0, bAt_of hx1, bAt_of hx2, bAt_of hx3]
        · show decide (bAt i.rest 36 = 1) = _
          rw [bAt_of hx36]
      have hlt8 : i.ring.length < 8 := of_decide_eq_true h23
      (repeat (with_reducible refine G_seq ?_))
      refine G_draw [33] 35 rfl (by kernel_rfl) ?_
      refine GA_y 0 rfl (by kernel_rfl) (by kernel_rfl) (by kernel_rfl) (fun _ _ _ h => h) rfl rfl rfl (Y_move rfl) ?_
      refine GA_y 1 rfl (by kernel_rfl) (by kernel_rfl) (by kernel_rfl) (fun _ _ _ h => h) rfl rfl rfl (Y_move rfl) ?_
      refine GA_y 2 rfl (by kernel_rfl) (by kernel_rfl) (by kernel_rfl) (fun _ _ _ h => h) rfl rfl rfl (Y_bAt (j := 0) hr rfl rfl hx0 hrl) ?_
      refine GA_y 3 rfl (by kernel_rfl) (by kernel_rfl) (by kernel_rfl) (fun _ _ _ h => h) rfl rfl rfl (Y_bGet (j := 0) hr (by simp) rfl hx0) ?_
      refine GA_y 4 rfl (by kernel_rfl) (by kernel_rfl) (by kernel_rfl) (fun _ _ _ h => h) rfl rfl rfl (Y_ofByte Try.underlying5 Try.underlying3 (by decide) rfl) ?_
      refine GA_y 5 rfl (by kernel_rfl) (by kernel_rfl) (by kernel_rfl) (fun _ _ _ h => h) rfl rfl rfl (Y_move rfl) ?_
      refine GA_y 6 rfl (by kernel_rfl) (by kernel_rfl) (by kernel_rfl) (fun _ _ _ h => h) rfl rfl rfl (Y_bAt (j := 1) hr rfl rfl hx1 hrl) ?_
      refine GA_y 7 rfl (by kernel_rfl) (by kernel_rfl) (by kernel_rfl) (fun _ _ _ h => h) rfl rfl rfl (Y_bGet (j := 1) hr (by simp) rfl hx1) ?_
      refine GA_y 8 rfl (by kernel_rfl) (by kernel_rfl) (by kernel_rfl) (fun _ _ _ h => h) rfl rfl rfl (Y_ofByte Try.underlying5 Try.underlying3 (by decide) rfl) ?_
      refine GA_y 9 rfl (by kernel_rfl) (by kernel_rfl) (by kernel_rfl) (fun _ _ _ h => h) rfl rfl rfl (Y_shlN (b := 8) rfl rfl (by decide) (by omega)) ?_
      refine GA_y 10 rfl (by kernel_rfl) (by kernel_rfl) (by kernel_rfl) (fun _ _ _ h => h) rfl rfl rfl (Y_orN rfl rfl (by omega) (by omega)) ?_
      refine GA_y 11 rfl (by kernel_rfl) (by kernel_rfl) (by kernel_rfl) (fun _ _ _ h => h) rfl rfl rfl (Y_move rfl) ?_
      refine GA_y 12 rfl (by kernel_rfl) (by kernel_rfl) (by kernel_rfl) (fun _ _ _ h => h) rfl rfl rfl (Y_bAt (j := 2) hr rfl rfl hx2 hrl) ?_
      refine GA_y 13 rfl (by kernel_rfl) (by kernel_rfl) (by kernel_rfl) (fun _ _ _ h => h) rfl rfl rfl (Y_bGet (j := 2) hr (by simp) rfl hx2) ?_
      refine GA_y 14 rfl (by kernel_rfl) (by kernel_rfl) (by kernel_rfl) (fun _ _ _ h => h) rfl rfl rfl (Y_ofByte Try.underlying5 Try.underlying3 (by decide) rfl) ?_
      refine GA_y 15 rfl (by kernel_rfl) (by kernel_rfl) (by kernel_rfl) (fun _ _ _ h => h) rfl rfl rfl (Y_shlN (b := 16) rfl rfl (by decide) (by omega)) ?_
      refine GA_y 16 rfl (by kernel_rfl) (by kernel_rfl) (by kernel_rfl) (fun _ _ _ h => h) rfl rfl rfl (Y_orN rfl rfl (by omega) (by omega)) ?_
      refine GA_y 17 rfl (by kernel_rfl) (by kernel_rfl) (by kernel_rfl) (fun _ _ _ h => h) rfl rfl rfl (Y_move rfl) ?_
      refine GA_y 18 rfl (by kernel_rfl) (by kernel_rfl) (by kernel_rfl) (fun _ _ _ h => h) rfl rfl rfl (Y_bAt (j := 3) hr rfl rfl hx3 hrl) ?_
      refine GA_y 19 rfl (by kernel_rfl) (by kernel_rfl) (by kernel_rfl) (fun _ _ _ h => h) rfl rfl rfl (Y_bGet (j := 3) hr (by simp) rfl hx3) ?_
      refine GA_y 20 rfl (by kernel_rfl) (by kernel_rfl) (by kernel_rfl) (fun _ _ _ h => h) rfl rfl rfl (Y_ofByte Try.underlying5 Try.underlying3 (by decide) rfl) ?_
      refine GA_y 21 rfl (by kernel_rfl) (by kernel_rfl) (by kernel_rfl) (fun _ _ _ h => h) rfl rfl rfl (Y_shlN (b := 24) rfl rfl (by decide) (by omega)) ?_
      refine GA_y 22 rfl (by kernel_rfl) (by kernel_rfl) (by kernel_rfl) (fun _ _ _ h => h) rfl rfl rfl (Y_orN rfl rfl (by omega) (by omega)) ?_
      refine GA_y 23 rfl (by kernel_rfl) (by kernel_rfl) (by kernel_rfl) (fun _ _ _ h => h) rfl rfl rfl (Y_move rfl) ?_
      refine GA_y 24 rfl (by kernel_rfl) (by kernel_rfl) (by kernel_rfl) (fun _ _ _ h => h) rfl rfl rfl (Y_sl32 hr h37 rfl hrl hrc) ?_
      refine GA_y 25 rfl (by kernel_rfl) (by kernel_rfl) (by kernel_rfl) (fun _ _ _ h => h) rfl rfl rfl (Y_s2a Try.underlying28 rfl (by decide)) ?_
      refine GA_y 26 rfl (by kernel_rfl) (by kernel_rfl) (by kernel_rfl) (fun _ _ _ h => h) rfl rfl rfl (Y_ld32 hr (by simp) h37 rfl) ?_
      refine GA_y 27 rfl (by kernel_rfl) (by kernel_rfl) (by kernel_rfl) (fun _ _ _ h => h) rfl rfl rfl (Y_move rfl) ?_
      refine GA_y 28 rfl (by kernel_rfl) (by kernel_rfl) (by kernel_rfl) (fun _ _ _ h => h) rfl rfl rfl (Y_bAt (j := 36) hr rfl rfl hx36 hrl) ?_
      refine GA_y 29 rfl (by kernel_rfl) (by kernel_rfl) (by kernel_rfl) (fun _ _ _ h => h) rfl rfl rfl (Y_bGet (j := 36) hr (by simp) rfl hx36) ?_
      refine GA_y 30 rfl (by kernel_rfl) (by kernel_rfl) (by kernel_rfl) (fun _ _ _ h => h) rfl rfl rfl ((Y_iop rfl rfl rfl).as (.bool (decide (x36 = 1))) (congrArg Value.bool (decide_eq_decide.2 ⟨fun h => UInt8.toNat_inj.1 (by have h' : (x36.toNat : Int) = 1 := h; show x36.toNat = 1; omega), fun h => by rw [h]; rfl⟩))) ?_
      refine GA_y 31 rfl (by kernel_rfl) (by kernel_rfl) (by kernel_rfl) (fun _ _ _ h => h) rfl rfl rfl (Y_build (v := .agg (keyL (keyOf i.rest)).toArray) (vs := [(0, .int .i64 (num4 x0 x1 x2 x3 : Nat)), (1, .agg (B (keyOf i.rest).bytes).toArray), (2, .bool (decide (x36 = 1)))]) rfl (fun w => by rw [hkey]; exact build39 ⟨(num4 x0 x1 x2 x3 : Nat), (keyOf i.rest).bytes, (keyOf i.rest).len, decide (x36 = 1)⟩ w)) ?_
      refine GA_one 32 (by kernel_rfl) ?_
      refine GO_w rfl rfl rfl rfl (W_bs1 (xs := keyL (keyOf i.rest)) Try.underlying22 el39 rfl (keyL_len _) (by decide) (by decide) fun b58 => ⟨⟨_, by repeat (first | exact .nil | exact Pick.rfl' _ | exact Pick.skip (Pick.rfl' _) | exact Pick.skip (Pick.skip (Pick.rfl' _)) | (apply Pick.cons; focus (first | exact .head | exact (.tail .head) | exact (.tail (.tail .head)) | exact (.tail (.tail (.tail .head))) | exact (.tail (.tail (.tail (.tail .head)))) | exact (.tail (.tail (.tail (.tail (.tail .head))))) | exact (.tail (.tail (.tail (.tail (.tail (.tail .head)))))) | exact (.tail (.tail (.tail (.tail (.tail (.tail (.tail .head))))))) | exact (.tail (.tail (.tail (.tail (.tail (.tail (.tail (.tail .head)))))))) | exact (.tail (.tail (.tail (.tail (.tail (.tail (.tail (.tail (.tail .head))))))))) | exact (.tail (.tail (.tail (.tail (.tail (.tail (.tail (.tail (.tail (.tail .head)))))))))) | exact (.tail (.tail (.tail (.tail (.tail (.tail (.tail (.tail (.tail (.tail (.tail .head))))))))))) | exact (.tail (.tail (.tail (.tail (.tail (.tail (.tail (.tail (.tail (.tail (.tail (.tail .head)))))))))))) | exact (.tail (.tail (.tail (.tail (.tail (.tail (.tail (.tail (.tail (.tail (.tail (.tail (.tail .head))))))))))))))))⟩, ?_⟩)
      refine GA_one 33 (by kernel_rfl) ?_
      refine GO_wt rfl rfl rfl rfl (W_appKey (kd := keyOf i.rest) hO rfl rfl rfl (by omega) (.skip (Pick.rfl' _)) (by first | exact .head _ | exact .tail _ (.head _) | exact .tail _ (.tail _ (.head _)) | exact .tail _ (.tail _ (.tail _ (.head _))) | exact .tail _ (.tail _ (.tail _ (.tail _ (.head _)))) | exact .tail _ (.tail _ (.tail _ (.tail _ (.tail _ (.head _))))) | exact .tail _ (.tail _ (.tail _ (.tail _ (.tail _ (.tail _ (.head _)))))) | exact .tail _ (.tail _ (.tail _ (.tail _ (.tail _ (.tail _ (.tail _ (.head _))))))) | exact .tail _ (.tail _ (.tail _ (.tail _ (.tail _ (.tail _ (.tail _ (.tail _ (.head _)))))))) | exact .tail _ (.tail _ (.tail _ (.tail _ (.tail _ (.tail _ (.tail _ (.tail _ (.tail _ (.head _))))))))) | exact .tail _ (.tail _ (.tail _ (.tail _ (.tail _ (.tail _ (.tail _ (.tail _ (.tail _ (.tail _ (.head _)))))))))) | exact .tail _ (.tail _ (.tail _ (.tail _ (.tail _ (.tail _ (.tail _ (.tail _ (.tail _ (.tail _ (.tail _ (.head _))))))))))) | exact .tail _ (.tail _ (.tail _ (.tail _ (.tail _ (.tail _ (.tail _ (.tail _ (.tail _ (.tail _ (.tail _ (.tail _ (.head _)))))))))))) | exact .tail _ (.tail _ (.tail _ (.tail _ (.tail _ (.tail _ (.tail _ (.tail _ (.tail _ (.tail _ (.tail _ (.tail _ (.tail _ (.head _)))))))))))))) fun b59 c59 => ?_)
      refine GA_y 34 rfl (by kernel_rfl) (by kernel_rfl) (by kernel_rfl) (fun _ _ _ h => h) rfl rfl rfl (Y_assign rfl) ?_
      refine GA_done (by kernel_rfl) ?_
      (repeat (first | (with_reducible refine R_seq ?_) | (with_reducible refine R_block_normal ?_)))
      (repeat (with_reducible refine G_seq ?_))
      refine G_region ?_
      refine GL_y rfl rfl (Y_move rfl) ?_
      refine GL_y rfl rfl (Y_slS (vl := some _) (vh := none) (kl := 37) (kh := i.rl) sl24 rfl rfl rfl ⟨_, rfl⟩ rfl (by omega) hrc hrc) ?_
      refine GL_y rfl rfl (Y_assign rfl) ?_
      refine GL_nil ?_
      (repeat (first | (with_reducible refine R_seq ?_) | (with_reducible refine R_block_normal ?_)))
      (repeat (with_reducible refine R_block_normal ?_))
      refine R_fam ⟨some ⟨b59, 0, none⟩, c59, [⟨b59, 39, c59 * 34, ringL (i.ring ++ [keyOf i.rest]), (0, 0)⟩], i.ring ++ [keyOf i.rest], subA i.ra i.rc 37 1, i.rl - 37, i.rc - 37, i.rest.drop 37⟩ ?_ (⟨by first | rfl | decide, by first | rfl | decide, by first | rfl | decide, by first | rfl | decide, by first | rfl | decide, by first | rfl | decide, trivial⟩) (by repeat (first | exact .nil | exact Pick.rfl' _ | exact Pick.skip (Pick.rfl' _) | exact Pick.skip (Pick.skip (Pick.rfl' _)) | (apply Pick.cons; focus (first | exact .head | exact (.tail .head) | exact (.tail (.tail .head)) | exact (.tail (.tail (.tail .head))) | exact (.tail (.tail (.tail (.tail .head)))) | exact (.tail (.tail (.tail (.tail (.tail .head))))) | exact (.tail (.tail (.tail (.tail (.tail (.tail .head)))))) | exact (.tail (.tail (.tail (.tail (.tail (.tail (.tail .head))))))) | exact (.tail (.tail (.tail (.tail (.tail (.tail (.tail (.tail .head)))))))) | exact (.tail (.tail (.tail (.tail (.tail (.tail (.tail (.tail (.tail .head))))))))) | exact (.tail (.tail (.tail (.tail (.tail (.tail (.tail (.tail (.tail (.tail .head)))))))))) | exact (.tail (.tail (.tail (.tail (.tail (.tail (.tail (.tail (.tail (.tail (.tail .head))))))))))) | exact (.tail (.tail (.tail (.tail (.tail (.tail (.tail (.tail (.tail (.tail (.tail (.tail .head)))))))))))) | exact (.tail (.tail (.tail (.tail (.tail (.tail (.tail (.tail (.tail (.tail (.tail (.tail (.tail .head)))))))))))))))))
      refine ⟨⟨by simp only [List.length_drop]; omega, by simp only; omega, ?_, .inr ⟨b59, rfl, rfl⟩, by simp only [List.length_append, List.length_singleton]; omega, keysOf_app hk hlt8 h37⟩, by simp only; omega⟩
      have h := hr.drop i.rc 37 1 (by rw [len_B]; omega)
      have e : (B i.rest).drop (37 * 1) = B (i.rest.drop 37) := by simp [B, List.map_drop]
      rw [e] at h
      exact h
    · -- no
      (repeat (with_reducible refine G_seq ?_))
      refine G_exit ?_
      (repeat (first | (with_reducible refine R_then_exit ?_) | (with_reducible refine R_block_exit ?_) | (with_reducible refine R_block_other (by decide) ?_)))
      (repeat (first | (with_reducible refine R_seq ?_) | (with_reducible refine R_block_normal ?_)))
      have hstop : ¬ (37 ≤ i.rl ∧ i.ring.length < 8) := fun h => by have h1 := of_decide_eq_false h23; omega
      have hks : keysOf 8 (bs.drop 8) = i.ring := by
        rw [hk, keysOf_end (by omega)]; simp
      rw [hks] at hm
      rw [hks] at hb
      (repeat (with_reducible refine G_seq ?_))
      refine G_region ?_
      refine GL_y rfl rfl (Y_move rfl) ?_
      refine GL_call rfl rfl rfl rfl Try.call9 .nil (fun w hw => bytes_ok (hO.sl hw) (by omega) hm) ?_
      rintro _ _ ⟨b62, c62, _, rfl, rfl⟩
      refine GL_y rfl rfl (Y_move rfl) ?_
      refine GL_y rfl rfl (Y_extract rfl rfl) ?_
      refine GL_y rfl rfl (Y_extract rfl rfl) ?_
      refine GL_y rfl rfl (Y_assign rfl) ?_
      refine GL_y rfl rfl (Y_assign rfl) ?_
      refine GL_nil ?_
      (repeat (first | (with_reducible refine R_seq ?_) | (with_reducible refine R_block_normal ?_)))
      (repeat (with_reducible refine G_seq ?_))
      refine G_region ?_
      refine GL_y rfl rfl (Y_move rfl) ?_
      refine GL_y rfl rfl (Y_iop (v := .bool false) rfl rfl rfl) ?_
      refine GL_y rfl rfl (Y_move rfl) ?_
      refine GL_y rfl rfl (Y_move rfl) ?_
      refine GL_y rfl rfl (Y_move rfl) ?_
      refine GL_call rfl rfl rfl rfl Try.call24 .nil (fun w hw => equal_is (SlAt.mk' (hw.cells (k := ⟨b62, 5, c62 * 1, B (bytesD i.ring), (0, 0)⟩) (by first | exact .head _ | exact .tail _ (.head _) | exact .tail _ (.tail _ (.head _)) | exact .tail _ (.tail _ (.tail _ (.head _))) | exact .tail _ (.tail _ (.tail _ (.tail _ (.head _)))) | exact .tail _ (.tail _ (.tail _ (.tail _ (.tail _ (.head _))))) | exact .tail _ (.tail _ (.tail _ (.tail _ (.tail _ (.tail _ (.head _)))))) | exact .tail _ (.tail _ (.tail _ (.tail _ (.tail _ (.tail _ (.tail _ (.head _))))))) | exact .tail _ (.tail _ (.tail _ (.tail _ (.tail _ (.tail _ (.tail _ (.tail _ (.head _)))))))) | exact .tail _ (.tail _ (.tail _ (.tail _ (.tail _ (.tail _ (.tail _ (.tail _ (.tail _ (.head _))))))))) | exact .tail _ (.tail _ (.tail _ (.tail _ (.tail _ (.tail _ (.tail _ (.tail _ (.tail _ (.tail _ (.head _)))))))))) | exact .tail _ (.tail _ (.tail _ (.tail _ (.tail _ (.tail _ (.tail _ (.tail _ (.tail _ (.tail _ (.tail _ (.head _))))))))))) | exact .tail _ (.tail _ (.tail _ (.tail _ (.tail _ (.tail _ (.tail _ (.tail _ (.tail _ (.tail _ (.tail _ (.tail _ (.head _)))))))))))) | exact .tail _ (.tail _ (.tail _ (.tail _ (.tail _ (.tail _ (.tail _ (.tail _ (.tail _ (.tail _ (.tail _ (.tail _ (.tail _ (.head _)))))))))))))))) (hs.keep hw (by simp)) rfl rfl) ?_
      rintro _ _ ⟨rfl, rfl⟩
      refine GL_y rfl rfl (Y_not rfl) ?_
      refine GL_y rfl rfl (Y_pick rfl rfl rfl rfl) ?_
      refine GL_nil ?_
      (repeat (first | (with_reducible refine R_seq ?_) | (with_reducible refine R_block_normal ?_)))
      (repeat (with_reducible refine G_seq ?_))
      refine G_cond_f rfl (by simp [hb]) ?_
      (repeat (with_reducible refine G_seq ?_))
      refine G_skip ?_
      (repeat (first | (with_reducible refine R_seq ?_) | (with_reducible refine R_block_normal ?_)))
      (repeat (with_reducible refine G_seq ?_))
      refine G_region ?_
      refine GL_y rfl rfl (Y_move rfl) ?_
      refine GL_y rfl rfl (Y_assign rfl) ?_
      refine GL_y rfl rfl (Y_assign rfl) ?_
      refine GL_nil ?_
      (repeat (first | (with_reducible refine R_seq ?_) | (with_reducible refine R_block_normal ?_)))
      (repeat (with_reducible refine G_seq ?_))
      refine G_ret ?_
      (repeat (first | (with_reducible refine R_then_ret ?_) | (with_reducible refine R_block_ret ?_)))
      refine R_ret (.tmp rfl (.tmp rfl .nil)) i.N (by repeat (first | exact .nil | exact Pick.rfl' _ | exact Pick.skip (Pick.rfl' _) | exact Pick.skip (Pick.skip (Pick.rfl' _)) | (apply Pick.cons; focus (first | exact .head | exact (.tail .head) | exact (.tail (.tail .head)) | exact (.tail (.tail (.tail .head))) | exact (.tail (.tail (.tail (.tail .head)))) | exact (.tail (.tail (.tail (.tail (.tail .head))))) | exact (.tail (.tail (.tail (.tail (.tail (.tail .head)))))) | exact (.tail (.tail (.tail (.tail (.tail (.tail (.tail .head))))))) | exact (.tail (.tail (.tail (.tail (.tail (.tail (.tail (.tail .head)))))))) | exact (.tail (.tail (.tail (.tail (.tail (.tail (.tail (.tail (.tail .head))))))))) | exact (.tail (.tail (.tail (.tail (.tail (.tail (.tail (.tail (.tail (.tail .head)))))))))) | exact (.tail (.tail (.tail (.tail (.tail (.tail (.tail (.tail (.tail (.tail (.tail .head))))))))))) | exact (.tail (.tail (.tail (.tail (.tail (.tail (.tail (.tail (.tail (.tail (.tail (.tail .head)))))))))))) | exact (.tail (.tail (.tail (.tail (.tail (.tail (.tail (.tail (.tail (.tail (.tail (.tail (.tail .head))))))))))))))))) ⟨i.ao, i.c, by rw [hks]; rfl, by rw [hks]; exact hO⟩
  · -- g19 False
    refine GL_skip rfl rfl ?_
    refine GL_skip rfl rfl ?_
    refine GL_skip rfl rfl ?_
    refine GL_y rfl rfl (Y_pick rfl rfl rfl rfl) ?_
    refine GL_nil ?_
    (repeat (first | (with_reducible refine R_seq ?_) | (with_reducible refine R_block_normal ?_)))
    (repeat (with_reducible refine G_seq ?_))
    refine G_cond_f rfl (by first | rfl | decide | (simp; done) | (simp; omega)) ?_
    (repeat (with_reducible refine G_seq ?_))
    refine G_exit ?_
    (repeat (first | (with_reducible refine R_then_exit ?_) | (with_reducible refine R_block_exit ?_) | (with_reducible refine R_block_other (by decide) ?_)))
    (repeat (first | (with_reducible refine R_seq ?_) | (with_reducible refine R_block_normal ?_)))
    have hstop : ¬ (37 ≤ i.rl ∧ i.ring.length < 8) := fun h => absurd h.1 (by have h1 := of_decide_eq_false g19; omega)
    have hks : keysOf 8 (bs.drop 8) = i.ring := by
      rw [hk, keysOf_end (by omega)]; simp
    rw [hks] at hm
    rw [hks] at hb
    (repeat (with_reducible refine G_seq ?_))
    refine G_region ?_
    refine GL_y rfl rfl (Y_move rfl) ?_
    refine GL_call rfl rfl rfl rfl Try.call9 .nil (fun w hw => bytes_ok (hO.sl hw) (by omega) hm) ?_
    rintro _ _ ⟨b62, c62, _, rfl, rfl⟩
    refine GL_y rfl rfl (Y_move rfl) ?_
    refine GL_y rfl rfl (Y_extract rfl rfl) ?_
    refine GL_y rfl rfl (Y_extract rfl rfl) ?_
    refine GL_y rfl rfl (Y_assign rfl) ?_
    refine GL_y rfl rfl (Y_assign rfl) ?_
    refine GL_nil ?_
    (repeat (first | (with_reducible refine R_seq ?_) | (with_reducible refine R_block_normal ?_)))
    (repeat (with_reducible refine G_seq ?_))
    refine G_region ?_
    refine GL_y rfl rfl (Y_move rfl) ?_
    refine GL_y rfl rfl (Y_iop (v := .bool false) rfl rfl rfl) ?_
    refine GL_y rfl rfl (Y_move rfl) ?_
    refine GL_y rfl rfl (Y_move rfl) ?_
    refine GL_y rfl rfl (Y_move rfl) ?_
    refine GL_call rfl rfl rfl rfl Try.call24 .nil (fun w hw => equal_is (SlAt.mk' (hw.cells (k := ⟨b62, 5, c62 * 1, B (bytesD i.ring), (0, 0)⟩) (by first | exact .head _ | exact .tail _ (.head _) | exact .tail _ (.tail _ (.head _)) | exact .tail _ (.tail _ (.tail _ (.head _))) | exact .tail _ (.tail _ (.tail _ (.tail _ (.head _)))) | exact .tail _ (.tail _ (.tail _ (.tail _ (.tail _ (.head _))))) | exact .tail _ (.tail _ (.tail _ (.tail _ (.tail _ (.tail _ (.head _)))))) | exact .tail _ (.tail _ (.tail _ (.tail _ (.tail _ (.tail _ (.tail _ (.head _))))))) | exact .tail _ (.tail _ (.tail _ (.tail _ (.tail _ (.tail _ (.tail _ (.tail _ (.head _)))))))) | exact .tail _ (.tail _ (.tail _ (.tail _ (.tail _ (.tail _ (.tail _ (.tail _ (.tail _ (.head _))))))))) | exact .tail _ (.tail _ (.tail _ (.tail _ (.tail _ (.tail _ (.tail _ (.tail _ (.tail _ (.tail _ (.head _)))))))))) | exact .tail _ (.tail _ (.tail _ (.tail _ (.tail _ (.tail _ (.tail _ (.tail _ (.tail _ (.tail _ (.tail _ (.head _))))))))))) | exact .tail _ (.tail _ (.tail _ (.tail _ (.tail _ (.tail _ (.tail _ (.tail _ (.tail _ (.tail _ (.tail _ (.tail _ (.head _)))))))))))) | exact .tail _ (.tail _ (.tail _ (.tail _ (.tail _ (.tail _ (.tail _ (.tail _ (.tail _ (.tail _ (.tail _ (.tail _ (.tail _ (.head _)))))))))))))))) (hs.keep hw (by simp)) rfl rfl) ?_
    rintro _ _ ⟨rfl, rfl⟩
    refine GL_y rfl rfl (Y_not rfl) ?_
    refine GL_y rfl rfl (Y_pick rfl rfl rfl rfl) ?_
    refine GL_nil ?_
    (repeat (first | (with_reducible refine R_seq ?_) | (with_reducible refine R_block_normal ?_)))
    (repeat (with_reducible refine G_seq ?_))
    refine G_cond_f rfl (by simp [hb]) ?_
    (repeat (with_reducible refine G_seq ?_))
    refine G_skip ?_
    (repeat (first | (with_reducible refine R_seq ?_) | (with_reducible refine R_block_normal ?_)))
    (repeat (with_reducible refine G_seq ?_))
    refine G_region ?_
    refine GL_y rfl rfl (Y_move rfl) ?_
    refine GL_y rfl rfl (Y_assign rfl) ?_
    refine GL_y rfl rfl (Y_assign rfl) ?_
    refine GL_nil ?_
    (repeat (first | (with_reducible refine R_seq ?_) | (with_reducible refine R_block_normal ?_)))
    (repeat (with_reducible refine G_seq ?_))
    refine G_ret ?_
    (repeat (first | (with_reducible refine R_then_ret ?_) | (with_reducible refine R_block_ret ?_)))
    refine R_ret (.tmp rfl (.tmp rfl .nil)) i.N (by repeat (first | exact .nil | exact Pick.rfl' _ | exact Pick.skip (Pick.rfl' _) | exact Pick.skip (Pick.skip (Pick.rfl' _)) | (apply Pick.cons; focus (first | exact .head | exact (.tail .head) | exact (.tail (.tail .head)) | exact (.tail (.tail (.tail .head))) | exact (.tail (.tail (.tail (.tail .head)))) | exact (.tail (.tail (.tail (.tail (.tail .head))))) | exact (.tail (.tail (.tail (.tail (.tail (.tail .head)))))) | exact (.tail (.tail (.tail (.tail (.tail (.tail (.tail .head))))))) | exact (.tail (.tail (.tail (.tail (.tail (.tail (.tail (.tail .head)))))))) | exact (.tail (.tail (.tail (.tail (.tail (.tail (.tail (.tail (.tail .head))))))))) | exact (.tail (.tail (.tail (.tail (.tail (.tail (.tail (.tail (.tail (.tail .head)))))))))) | exact (.tail (.tail (.tail (.tail (.tail (.tail (.tail (.tail (.tail (.tail (.tail .head))))))))))) | exact (.tail (.tail (.tail (.tail (.tail (.tail (.tail (.tail (.tail (.tail (.tail (.tail .head)))))))))))) | exact (.tail (.tail (.tail (.tail (.tail (.tail (.tail (.tail (.tail (.tail (.tail (.tail (.tail .head))))))))))))))))) ⟨i.ao, i.c, by rw [hks]; rfl, by rw [hks]; exact hO⟩
end Go.Proofs.Ytkdodpcafamhaaa

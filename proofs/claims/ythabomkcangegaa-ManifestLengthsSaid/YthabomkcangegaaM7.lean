/-
  Split, Number, the reader.
-/
import Derived.Test.YthabomkcangegaaM6
namespace Go.Proofs.Ythabomkcangegaa
open Go Go.Sl Go.RowKit

theorem fd53_0 : TFld Try.prog 53 0 0 := TFld.mk' Try.underlying53 rfl rfl (by kernel_rfl) (by decide : 1 ≠ 0)
def bAt (l : List UInt8) (i : Nat) : UInt8 := (l[i]?).getD 0
theorem bAt_of {l : List UInt8} {i : Nat} {x : UInt8} (h : l[i]? = some x) : bAt l i = x := by simp [bAt, h]
theorem bAt_some {l : List UInt8} {i : Nat} (h : i < l.length) : l[i]? = some (bAt l i) := by rw [bAt, List.getElem?_eq_getElem h]; rfl
theorem bAt_drop (l : List UInt8) (p i : Nat) : bAt (l.drop p) i = bAt l (p + i) := by simp [bAt, List.getElem?_drop]
theorem bAt_take {l : List UInt8} {p i : Nat} (h : i < p) : bAt (l.take p) i = bAt l i := by simp [bAt, h]
def numAt (l : List UInt8) (p : Nat) : Nat := num4 (bAt l p) (bAt l (p + 1)) (bAt l (p + 2)) (bAt l (p + 3))
section
variable {n : Nat} {D : List Deferred} {X : List Nat} {w0 : World} {E : Env} {M : List Blk} {tt ty : TypeId} {ao : Option Addr} {l c j : Nat} {x y i : Operand} {k : IntKind} {bs : List UInt8} {u : UInt8}
theorem bytesNe (hk : bs[j]? = some u) : B bs ≠ [] := fun e => by
  have h1 := (List.getElem?_eq_some_iff.1 hk).1
  rw [B, List.map_eq_nil_iff] at e; subst e; simp at h1
theorem Y_bAt (hs : SlAt w0 ao (B bs)) (hx : ev E x = some (.slice ao l c)) (hi : ev E i = some (.int k (j : Int))) (hk : bs[j]? = some u) (hl : l = bs.length) :
    Yl Try.prog n D X w0 E M (.indexAddr 25 x i) tt (.pointer (some ⟨adb ao, ado ao + j, none⟩)) :=
  Y_idxS1 sl25 hx (hs.addr (bytesNe hk)) hi (by rw [hl]; exact (List.getElem?_eq_some_iff.1 hk).1)
theorem Y_bGet (hs : SlAt w0 ao (B bs)) (hX : adb ao ∉ X) (hx : ev E x = some (.pointer (some ⟨adb ao, ado ao + j, none⟩))) (hk : bs[j]? = some u) :
    Yl Try.prog n D X w0 E M (.load 5 x) tt (bv u) :=
  Y_loadX hx sc5 hs.cells hX rfl (by simp [B, hk])
theorem Y_shlN {t : TypeId} {a b : Nat} {yk : IntKind} (hx : ev E x = some (.int .i64 (a : Int))) (hy : ev E y = some (.int yk (b : Int))) (hb : b ≤ 64) (h : a * 2 ^ b < 9223372036854775808) :
    Yl Try.prog n D X w0 E M (.binOp .shl t x y ty) tt (.int .i64 ((a * 2 ^ b : Nat) : Int)) := by
  have h1 := Y_shl (P := Try.prog) (n := n) (D := D) (X := X) (w0 := w0) (M := M) (tt := tt) (t := t) (ty := ty) hx hy
  refine h1.as _ ?_
  have e : min b IntKind.i64.bits = b := Nat.min_eq_left hb
  have e2 : ((a : Int) * 2 ^ b) = ((a * 2 ^ b : Nat) : Int) := by simp
  rw [e, e2, wrap64_nat h]
theorem Y_orN {t : TypeId} {a b k : Nat} (hx : ev E x = some (.int .i64 (a : Int))) (hy : ev E y = some (.int .i64 ((b * 2 ^ k : Nat) : Int))) (ha : a < 2 ^ k) (h : a + b * 2 ^ k < 9223372036854775808) :
    Yl Try.prog n D X w0 E M (.binOp .or t x y ty) tt (.int .i64 ((a + b * 2 ^ k : Nat) : Int)) := Y_iop hx hy (iop_or ha h)
end
theorem iop_sub {a b : Int} (h : -9223372036854775808 ≤ a - b) (h2 : a - b < 9223372036854775808) : iop .sub .i64 a b = some (.int .i64 (a - b)) := by
  simp only [iop]; rw [IntKind.wrap_i64]; congr 2; omega
/-- A part of a slice of bytes. -/
theorem subB {w : World} {ao : Option Addr} {c lo : Nat} {bs : List UInt8} (hs : SlAt w ao (B bs)) (hc : bs.length ≤ c) (hi : Nat) : SlAt w (subA ao c lo 1) (B ((bs.drop lo).take hi)) := by
  have h := (hs.drop c lo 1 (by rw [len_B]; omega)).take hi
  have e : ((B bs).drop (lo * 1)).take hi = B ((bs.drop lo).take hi) := by simp [B, List.map_drop, List.map_take]
  rwa [e] at h
theorem subB' {w : World} {ao : Option Addr} {c lo : Nat} {bs : List UInt8} (hs : SlAt w ao (B bs)) (hc : bs.length ≤ c) : SlAt w (subA ao c lo 1) (B (bs.drop lo)) := by
  have h := hs.drop c lo 1 (by rw [len_B]; omega)
  have e : (B bs).drop (lo * 1) = B (bs.drop lo) := by simp [B, List.map_drop]
  rwa [e] at h
theorem subA_adb (ao : Option Addr) (m l s : Nat) : adb (subA ao m l s) = adb ao := by
  unfold subA
  split
  · rfl
  · cases ao with
    | none => rfl
    | some a => simp only [Option.map_some, adb]; unfold Addr.add; split <;> rfl
theorem split_short {ao : Option Addr} {c l : Nat} {bs : List UInt8} {w : World} (h : bs.length < 64) (e : l = bs.length) :
    FnAt Try.prog 15 [.slice ao l c] [] w (Ret fun v N => v = .tuple #[.slice none 0 0, .slice none 0 0, .int .i64 4] ∧ N = []) := by
  subst e
  refine FnAt.intro Try.func15 rfl Try.ntmps15 rfl _ rfl ?_
  (repeat (with_reducible refine G_seq ?_))
  refine G_region ?_
  refine GL_y rfl rfl (Y_assign rfl) ?_
  refine GL_y rfl rfl (Y_assign rfl) ?_
  refine GL_y rfl rfl (Y_assign rfl) ?_
  refine GL_nil ?_
  (repeat (first | (with_reducible refine R_seq ?_) | (with_reducible refine R_block_normal ?_)))
  (repeat (with_reducible refine G_seq ?_))
  refine G_region ?_
  refine GL_y rfl rfl (Y_move rfl) ?_
  refine GL_y rfl rfl (Y_len sl25 rfl) ?_
  refine GL_y rfl rfl (Y_iop rfl rfl (iop_sub (by omega) (by omega))) ?_
  refine GL_y rfl rfl (Y_assign rfl) ?_
  refine GL_nil ?_
  (repeat (first | (with_reducible refine R_seq ?_) | (with_reducible refine R_block_normal ?_)))
  (repeat (with_reducible refine G_seq ?_))
  refine G_region ?_
  refine GL_y rfl rfl (Y_move rfl) ?_
  refine GL_y rfl rfl (Y_iop rfl rfl rfl) ?_
  refine GL_nil ?_
  (repeat (first | (with_reducible refine R_seq ?_) | (with_reducible refine R_block_normal ?_)))
  (repeat (with_reducible refine G_seq ?_))
  refine G_cond_t rfl (by simp; omega) ?_
  (repeat (with_reducible refine G_seq ?_))
  refine G_region ?_
  refine GL_y rfl rfl (Y_assign rfl) ?_
  refine GL_y rfl rfl (Y_assign rfl) ?_
  refine GL_y rfl rfl (Y_assign rfl) ?_
  refine GL_nil ?_
  (repeat (first | (with_reducible refine R_seq ?_) | (with_reducible refine R_block_normal ?_)))
  (repeat (with_reducible refine G_seq ?_))
  refine G_ret ?_
  (repeat (first | (with_reducible refine R_then_ret ?_) | (with_reducible refine R_block_ret ?_)))
  refine R_ret (.tmp rfl (.tmp rfl (.tmp rfl .nil))) [] .nil ⟨rfl, rfl⟩
theorem split_ok {ao : Option Addr} {c l : Nat} {bs : List UInt8} {w : World} (hs : SlAt w ao (B bs)) (hc : bs.length ≤ c) (hlen : bs.length ≤ 100000) (h : 64 ≤ bs.length) (e : l = bs.length) :
    FnAt Try.prog 15 [.slice ao l c] [] w (Ret fun v N => ∃ b1 c1 b2 c2, v = .tuple #[.slice (some ⟨b1, 0, none⟩) (bs.take (bs.length - 64)).length c1, .slice (some ⟨b2, 0, none⟩) (bs.drop (bs.length - 64)).length c2, .int .i64 0] ∧
      N = [⟨b2, 5, c2 * 1, B (bs.drop (bs.length - 64)), (0, 0)⟩, ⟨b1, 5, c1 * 1, B (bs.take (bs.length - 64)), (0, 0)⟩]) := by
  subst e
  have hao := hs.addr (fun e => by have := congrArg List.length e; simp [B] at this; subst this; simp at h)
  have hs1 := subB (lo := 0) hs hc (bs.length - 64)
  have hs2 := subB' (lo := bs.length - 64) hs hc
  rw [List.drop_zero] at hs1
  have hn : ∀ k, subA ao c k 1 ≠ none := fun k => by
    unfold subA; rw [hao]; split <;> simp
  refine FnAt.intro Try.func15 rfl Try.ntmps15 rfl _ rfl ?_
  (repeat (with_reducible refine G_seq ?_))
  refine G_region ?_
  refine GL_y rfl rfl (Y_assign rfl) ?_
  refine GL_y rfl rfl (Y_assign rfl) ?_
  refine GL_y rfl rfl (Y_assign rfl) ?_
  refine GL_nil ?_
  (repeat (first | (with_reducible refine R_seq ?_) | (with_reducible refine R_block_normal ?_)))
  (repeat (with_reducible refine G_seq ?_))
  refine G_region ?_
  refine GL_y rfl rfl (Y_move rfl) ?_
  refine GL_y rfl rfl (Y_len sl25 rfl) ?_
  refine GL_y rfl rfl (Y_subN (b := 64) rfl rfl h (by omega)) ?_
  refine GL_y rfl rfl (Y_assign rfl) ?_
  refine GL_nil ?_
  (repeat (first | (with_reducible refine R_seq ?_) | (with_reducible refine R_block_normal ?_)))
  (repeat (with_reducible refine G_seq ?_))
  refine G_region ?_
  refine GL_y rfl rfl (Y_move rfl) ?_
  refine GL_y rfl rfl (Y_lssN (b := 0) rfl rfl) ?_
  refine GL_nil ?_
  (repeat (first | (with_reducible refine R_seq ?_) | (with_reducible refine R_block_normal ?_)))
  (repeat (with_reducible refine G_seq ?_))
  refine G_cond_f rfl (by simp) ?_
  (repeat (with_reducible refine G_seq ?_))
  refine G_skip ?_
  (repeat (first | (with_reducible refine R_seq ?_) | (with_reducible refine R_block_normal ?_)))
  (repeat (with_reducible refine G_seq ?_))
  refine G_draw [] 11 rfl (by kernel_rfl) ?_
  refine GA_y 0 rfl (by kernel_rfl) (by kernel_rfl) (by kernel_rfl) (fun _ _ _ h => h) rfl rfl rfl (Y_move rfl) ?_
  refine GA_y 1 rfl (by kernel_rfl) (by kernel_rfl) (by kernel_rfl) (fun _ _ _ h => h) rfl rfl rfl (Y_move rfl) ?_
  refine GA_y 2 rfl (by kernel_rfl) (by kernel_rfl) (by kernel_rfl) (fun _ _ _ h => h) rfl rfl rfl (Y_slS (vl := none) (vh := some _) (kl := 0) (kh := bs.length - 64) sl25 rfl rfl rfl rfl ⟨_, rfl⟩ (by omega) (by omega) hc) ?_
  refine GA_y 4 rfl (by kernel_rfl) (by kernel_rfl) (by kernel_rfl) (fun _ _ _ h => h) rfl rfl rfl (Y_move rfl) ?_
  refine GA_y 5 rfl (by kernel_rfl) (by kernel_rfl) (by kernel_rfl) (fun _ _ _ h => h) rfl rfl rfl (Y_move rfl) ?_
  refine GA_y 6 rfl (by kernel_rfl) (by kernel_rfl) (by kernel_rfl) (fun _ _ _ h => h) rfl rfl rfl (Y_slS (vl := some _) (vh := none) (kl := bs.length - 64) (kh := bs.length) sl25 rfl rfl rfl ⟨_, rfl⟩ rfl (by omega) hc hc) ?_
  refine GA_one 3 (by kernel_rfl) ?_
  refine GO_call rfl rfl rfl rfl rfl rfl Try.call27 (fun w hw => clone_is (hs1.keep hw (by simp)) (by rw [List.length_take]; omega) (hn 0) (by rw [List.length_take]; omega)) ?_
  rintro _ _ ⟨b14, c14, h14, rfl, rfl⟩
  refine GA_one 7 (by kernel_rfl) ?_
  refine GO_call rfl rfl rfl rfl rfl rfl Try.call27 (fun w hw => clone_is (hs2.keep hw (by simp)) (by rw [List.length_drop]; omega) (hn _) (by rw [List.length_drop])) ?_
  rintro _ _ ⟨b18, c18, h18, rfl, rfl⟩
  refine GA_y 8 rfl (by kernel_rfl) (by kernel_rfl) (by kernel_rfl) (fun _ _ _ h => h) rfl rfl rfl (Y_assign rfl) ?_
  refine GA_y 9 rfl (by kernel_rfl) (by kernel_rfl) (by kernel_rfl) (fun _ _ _ h => h) rfl rfl rfl (Y_assign rfl) ?_
  refine GA_y 10 rfl (by kernel_rfl) (by kernel_rfl) (by kernel_rfl) (fun _ _ _ h => h) rfl rfl rfl (Y_assign rfl) ?_
  refine GA_done (by kernel_rfl) ?_
  (repeat (first | (with_reducible refine R_seq ?_) | (with_reducible refine R_block_normal ?_)))
  (repeat (with_reducible refine G_seq ?_))
  refine G_ret ?_
  (repeat (first | (with_reducible refine R_then_ret ?_) | (with_reducible refine R_block_ret ?_)))
  refine R_ret (.tmp rfl (.tmp rfl (.tmp rfl .nil))) [⟨b18, 5, c18 * 1, B (bs.drop (bs.length - 64)), (0, 0)⟩, ⟨b14, 5, c14 * 1, B (bs.take (bs.length - 64)), (0, 0)⟩] (by repeat (first | exact .nil | exact Pick.rfl' _ | exact Pick.skip (Pick.rfl' _) | exact Pick.skip (Pick.skip (Pick.rfl' _)) | (apply Pick.cons; focus (first | exact .head | exact (.tail .head) | exact (.tail (.tail .head)) | exact (.tail (.tail (.tail .head))) | exact (.tail (.tail (.tail (.tail .head)))) | exact (.tail (.tail (.tail (.tail (.tail .head))))) | exact (.tail (.tail (.tail (.tail (.tail (.tail .head)))))) | exact (.tail (.tail (.tail (.tail (.tail (.tail (.tail .head))))))) | exact (.tail (.tail (.tail (.tail (.tail (.tail (.tail (.tail .head)))))))) | exact (.tail (.tail (.tail (.tail (.tail (.tail (.tail (.tail (.tail .head))))))))) | exact (.tail (.tail (.tail (.tail (.tail (.tail (.tail (.tail (.tail (.tail .head)))))))))) | exact (.tail (.tail (.tail (.tail (.tail (.tail (.tail (.tail (.tail (.tail (.tail .head))))))))))) | exact (.tail (.tail (.tail (.tail (.tail (.tail (.tail (.tail (.tail (.tail (.tail (.tail .head)))))))))))) | exact (.tail (.tail (.tail (.tail (.tail (.tail (.tail (.tail (.tail (.tail (.tail (.tail (.tail .head))))))))))))))))) ⟨b14, c14, b18, c18, rfl, rfl⟩
set_option maxHeartbeats 4000000 in
theorem number_is {ao : Option Addr} {c l : Nat} {bs : List UInt8} {w : World} (hs : SlAt w ao (B bs)) (hl : l = bs.length) (h4 : 4 ≤ bs.length) :
    FnAt Try.prog 26 [.slice ao l c] [] w (Ret fun v N => v = .int .i64 (numAt bs 0 : Nat) ∧ N = []) := by
  have b0 := (bAt bs 0).toNat_lt
  have b1 := (bAt bs 1).toNat_lt
  have b2 := (bAt bs 2).toNat_lt
  have b3 := (bAt bs 3).toNat_lt
  have h0 := bAt_some (l := bs) (i := 0) (by omega)
  have h1 := bAt_some (l := bs) (i := 1) (by omega)
  have h2 := bAt_some (l := bs) (i := 2) (by omega)
  have h3 := bAt_some (l := bs) (i := 3) (by omega)
  refine FnAt.intro Try.func26 rfl Try.ntmps26 rfl _ rfl ?_
  (repeat (with_reducible refine G_seq ?_))
  refine G_region ?_
  refine GL_y rfl rfl (Y_assign rfl) ?_
  refine GL_nil ?_
  (repeat (first | (with_reducible refine R_seq ?_) | (with_reducible refine R_block_normal ?_)))
  (repeat (with_reducible refine G_seq ?_))
  refine G_region ?_
  refine GL_y rfl rfl (Y_assign (v := .int .i64 ((0 : Nat) : Int)) rfl) ?_
  refine GL_nil ?_
  (repeat (first | (with_reducible refine R_seq ?_) | (with_reducible refine R_block_normal ?_)))
  (repeat (with_reducible refine G_seq ?_))
  refine G_region ?_
  refine GL_y rfl rfl (Y_assign rfl) ?_
  refine GL_nil ?_
  (repeat (first | (with_reducible refine R_seq ?_) | (with_reducible refine R_block_normal ?_)))
  (repeat (with_reducible refine G_seq ?_))
  refine G_block ?_
  (repeat (with_reducible refine G_seq ?_))
  refine G_rounds 4 ?_
  -- round 0 of loop 0
  (repeat (with_reducible refine G_seq ?_))
  refine G_region ?_
  refine GL_y rfl rfl (Y_move rfl) ?_
  refine GL_y rfl rfl (Y_iop rfl rfl rfl) ?_
  refine GL_nil ?_
  (repeat (first | (with_reducible refine R_seq ?_) | (with_reducible refine R_block_normal ?_)))
  (repeat (with_reducible refine G_seq ?_))
  refine G_cond_t rfl (by first | rfl | decide) ?_
  (repeat (with_reducible refine G_seq ?_))
  refine G_skip ?_
  (repeat (first | (with_reducible refine R_seq ?_) | (with_reducible refine R_block_normal ?_)))
  (repeat (with_reducible refine G_seq ?_))
  refine G_block ?_
  (repeat (with_reducible refine G_seq ?_))
  refine G_region ?_
  refine GL_y rfl rfl (Y_move rfl) ?_
  refine GL_y rfl rfl (Y_mulN (a := 256) rfl rfl (by omega)) ?_
  refine GL_y rfl rfl (Y_move rfl) ?_
  refine GL_y rfl rfl (Y_move rfl) ?_
  refine GL_y rfl rfl (Y_bAt (j := 3) hs rfl rfl h3 hl) ?_
  refine GL_y rfl rfl (Y_bGet (j := 3) hs (by simp) rfl h3) ?_
  refine GL_y rfl rfl (Y_ofByte Try.underlying5 Try.underlying3 (by decide) rfl) ?_
  refine GL_y rfl rfl (Y_addN rfl rfl (by first | omega | decide)) ?_
  refine GL_y rfl rfl (Y_assign rfl) ?_
  refine GL_nil ?_
  (repeat (first | (with_reducible refine R_seq ?_) | (with_reducible refine R_block_normal ?_)))
  (repeat (with_reducible refine G_seq ?_))
  refine G_region ?_
  refine GL_y rfl rfl (Y_move rfl) ?_
  refine GL_y rfl rfl (Y_iop (v := .int .i64 2) rfl rfl rfl) ?_
  refine GL_y rfl rfl (Y_assign rfl) ?_
  refine GL_nil ?_
  (repeat (first | (with_reducible refine R_seq ?_) | (with_reducible refine R_block_normal ?_)))
  (repeat (first | (with_reducible refine R_block_normal ?_) | (with_reducible refine R_round ?_)))
  -- round 1 of loop 0
  (repeat (with_reducible refine G_seq ?_))
  refine G_region ?_
  refine GL_y rfl rfl (Y_move rfl) ?_
  refine GL_y rfl rfl (Y_iop rfl rfl rfl) ?_
  refine GL_nil ?_
  (repeat (first | (with_reducible refine R_seq ?_) | (with_reducible refine R_block_normal ?_)))
  (repeat (with_reducible refine G_seq ?_))
  refine G_cond_t rfl (by first | rfl | decide) ?_
  (repeat (with_reducible refine G_seq ?_))
  refine G_skip ?_
  (repeat (first | (with_reducible refine R_seq ?_) | (with_reducible refine R_block_normal ?_)))
  (repeat (with_reducible refine G_seq ?_))
  refine G_block ?_
  (repeat (with_reducible refine G_seq ?_))
  refine G_region ?_
  refine GL_y rfl rfl (Y_move rfl) ?_
  refine GL_y rfl rfl (Y_mulN (a := 256) rfl rfl (by omega)) ?_
  refine GL_y rfl rfl (Y_move rfl) ?_
  refine GL_y rfl rfl (Y_move rfl) ?_
  refine GL_y rfl rfl (Y_bAt (j := 2) hs rfl rfl h2 hl) ?_
  refine GL_y rfl rfl (Y_bGet (j := 2) hs (by simp) rfl h2) ?_
  refine GL_y rfl rfl (Y_ofByte Try.underlying5 Try.underlying3 (by decide) rfl) ?_
  refine GL_y rfl rfl (Y_addN rfl rfl (by first | omega | decide)) ?_
  refine GL_y rfl rfl (Y_assign rfl) ?_
  refine GL_nil ?_
  (repeat (first | (with_reducible refine R_seq ?_) | (with_reducible refine R_block_normal ?_)))
  (repeat (with_reducible refine G_seq ?_))
  refine G_region ?_
  refine GL_y rfl rfl (Y_move rfl) ?_
  refine GL_y rfl rfl (Y_iop (v := .int .i64 1) rfl rfl rfl) ?_
  refine GL_y rfl rfl (Y_assign rfl) ?_
  refine GL_nil ?_
  (repeat (first | (with_reducible refine R_seq ?_) | (with_reducible refine R_block_normal ?_)))
  (repeat (first | (with_reducible refine R_block_normal ?_) | (with_reducible refine R_round ?_)))
  -- round 2 of loop 0
  (repeat (with_reducible refine G_seq ?_))
  refine G_region ?_
  refine GL_y rfl rfl (Y_move rfl) ?_
  refine GL_y rfl rfl (Y_iop rfl rfl rfl) ?_
  refine GL_nil ?_
  (repeat (first | (with_reducible refine R_seq ?_) | (with_reducible refine R_block_normal ?_)))
  (repeat (with_reducible refine G_seq ?_))
  refine G_cond_t rfl (by first | rfl | decide) ?_
  (repeat (with_reducible refine G_seq ?_))
  refine G_skip ?_
  (repeat (first | (with_reducible refine R_seq ?_) | (with_reducible refine R_block_normal ?_)))
  (repeat (with_reducible refine G_seq ?_))
  refine G_block ?_
  (repeat (with_reducible refine G_seq ?_))
  refine G_region ?_
  refine GL_y rfl rfl (Y_move rfl) ?_
  refine GL_y rfl rfl (Y_mulN (a := 256) rfl rfl (by omega)) ?_
  refine GL_y rfl rfl (Y_move rfl) ?_
  refine GL_y rfl rfl (Y_move rfl) ?_
  refine GL_y rfl rfl (Y_bAt (j := 1) hs rfl rfl h1 hl) ?_
  refine GL_y rfl rfl (Y_bGet (j := 1) hs (by simp) rfl h1) ?_
  refine GL_y rfl rfl (Y_ofByte Try.underlying5 Try.underlying3 (by decide) rfl) ?_
  refine GL_y rfl rfl (Y_addN rfl rfl (by first | omega | decide)) ?_
  refine GL_y rfl rfl (Y_assign rfl) ?_
  refine GL_nil ?_
  (repeat (first | (with_reducible refine R_seq ?_) | (with_reducible refine R_block_normal ?_)))
  (repeat (with_reducible refine G_seq ?_))
  refine G_region ?_
  refine GL_y rfl rfl (Y_move rfl) ?_
  refine GL_y rfl rfl (Y_iop (v := .int .i64 0) rfl rfl rfl) ?_
  refine GL_y rfl rfl (Y_assign rfl) ?_
  refine GL_nil ?_
  (repeat (first | (with_reducible refine R_seq ?_) | (with_reducible refine R_block_normal ?_)))
  (repeat (first | (with_reducible refine R_block_normal ?_) | (with_reducible refine R_round ?_)))
  -- round 3 of loop 0
  (repeat (with_reducible refine G_seq ?_))
  refine G_region ?_
  refine GL_y rfl rfl (Y_move rfl) ?_
  refine GL_y rfl rfl (Y_iop rfl rfl rfl) ?_
  refine GL_nil ?_
  (repeat (first | (with_reducible refine R_seq ?_) | (with_reducible refine R_block_normal ?_)))
  (repeat (with_reducible refine G_seq ?_))
  refine G_cond_t rfl (by first | rfl | decide) ?_
  (repeat (with_reducible refine G_seq ?_))
  refine G_skip ?_
  (repeat (first | (with_reducible refine R_seq ?_) | (with_reducible refine R_block_normal ?_)))
  (repeat (with_reducible refine G_seq ?_))
  refine G_block ?_
  (repeat (with_reducible refine G_seq ?_))
  refine G_region ?_
  refine GL_y rfl rfl (Y_move rfl) ?_
  refine GL_y rfl rfl (Y_mulN (a := 256) rfl rfl (by omega)) ?_
  refine GL_y rfl rfl (Y_move rfl) ?_
  refine GL_y rfl rfl (Y_move rfl) ?_
  refine GL_y rfl rfl (Y_bAt (j := 0) hs rfl rfl h0 hl) ?_
  refine GL_y rfl rfl (Y_bGet (j := 0) hs (by simp) rfl h0) ?_
  refine GL_y rfl rfl (Y_ofByte Try.underlying5 Try.underlying3 (by decide) rfl) ?_
  refine GL_y rfl rfl (Y_addN rfl rfl (by first | omega | decide)) ?_
  refine GL_y rfl rfl (Y_assign rfl) ?_
  refine GL_nil ?_
  (repeat (first | (with_reducible refine R_seq ?_) | (with_reducible refine R_block_normal ?_)))
  (repeat (with_reducible refine G_seq ?_))
  refine G_region ?_
  refine GL_y rfl rfl (Y_move rfl) ?_
  refine GL_y rfl rfl (Y_iop (v := .int .i64 (-1)) rfl rfl rfl) ?_
  refine GL_y rfl rfl (Y_assign rfl) ?_
  refine GL_nil ?_
  (repeat (first | (with_reducible refine R_seq ?_) | (with_reducible refine R_block_normal ?_)))
  (repeat (first | (with_reducible refine R_block_normal ?_) | (with_reducible refine R_round ?_)))
  -- round 4 of loop 0
  (repeat (with_reducible refine G_seq ?_))
  refine G_region ?_
  refine GL_y rfl rfl (Y_move rfl) ?_
  refine GL_y rfl rfl (Y_iop rfl rfl rfl) ?_
  refine GL_nil ?_
  (repeat (first | (with_reducible refine R_seq ?_) | (with_reducible refine R_block_normal ?_)))
  (repeat (with_reducible refine G_seq ?_))
  refine G_cond_f rfl (by first | rfl | decide) ?_
  (repeat (with_reducible refine G_seq ?_))
  refine G_exit ?_
  (repeat (first | (with_reducible refine R_then_exit ?_) | (with_reducible refine R_block_exit ?_) | (with_reducible refine R_block_other (by decide) ?_)))
  (repeat (first | (with_reducible refine R_seq ?_) | (with_reducible refine R_block_normal ?_)))
  (repeat (with_reducible refine G_seq ?_))
  refine G_region ?_
  refine GL_y rfl rfl (Y_move rfl) ?_
  refine GL_y rfl rfl (Y_assign rfl) ?_
  refine GL_nil ?_
  (repeat (first | (with_reducible refine R_seq ?_) | (with_reducible refine R_block_normal ?_)))
  (repeat (with_reducible refine G_seq ?_))
  refine G_ret ?_
  (repeat (first | (with_reducible refine R_then_ret ?_) | (with_reducible refine R_block_ret ?_)))
  refine R_ret (.tmp rfl .nil) [] .nil ⟨by unfold numAt; rw [← num_ref]; rfl, rfl⟩
theorem subA_zero (ao : Option Addr) (c : Nat) : subA ao c 0 1 = ao := by
  unfold subA
  split
  · rfl
  · cases ao with
    | none => rfl
    | some a => simp [Addr.add]
def TakeP (rb tot : Nat) (ra : Option Addr) (rl rc n : Nat) (e : Ending) (N : List Blk) : Prop :=
  (n ≤ rl ∧ e = .returned (.slice ra n rc) ∧ N = [⟨rb, 53, tot, [.slice (subA ra rc n 1) (rl - n) (rc - n)], (0, 0)⟩]) ∨ (rl < n ∧ e = .panicked [badE] ∧ N = [⟨rb, 53, tot, [.slice ra rl rc], (0, 0)⟩])
set_option maxHeartbeats 4000000 in
theorem take_is {rb tot rl rc n : Nat} {ra : Option Addr} {w : World} (hc : rl ≤ rc) : FnAt Try.prog 24 [.pointer (some ⟨rb, 0, none⟩), .int .i64 (n : Int)] [⟨rb, 53, tot, [.slice ra rl rc], (0, 0)⟩] w (TakeP rb tot ra rl rc n) := by
  refine FnAt.intro Try.func24 rfl Try.ntmps24 rfl _ rfl ?_
  (repeat (with_reducible refine G_seq ?_))
  refine G_region ?_
  refine GL_y rfl rfl (Y_assign rfl) ?_
  refine GL_nil ?_
  (repeat (first | (with_reducible refine R_seq ?_) | (with_reducible refine R_block_normal ?_)))
  (repeat (with_reducible refine G_seq ?_))
  refine G_region ?_
  refine GL_y rfl rfl (Y_move rfl) ?_
  refine GL_y rfl rfl (Y_move rfl) ?_
  refine GL_y rfl rfl (Y_nilCheck rfl) ?_
  refine GL_y rfl rfl (Y_field fd53_0 rfl) ?_
  refine GL_y rfl rfl (Y_loadS rfl sc25 (by first | exact .head _ | exact .tail _ (.head _) | exact .tail _ (.tail _ (.head _)) | exact .tail _ (.tail _ (.tail _ (.head _))) | exact .tail _ (.tail _ (.tail _ (.tail _ (.head _)))) | exact .tail _ (.tail _ (.tail _ (.tail _ (.tail _ (.head _))))) | exact .tail _ (.tail _ (.tail _ (.tail _ (.tail _ (.tail _ (.head _)))))) | exact .tail _ (.tail _ (.tail _ (.tail _ (.tail _ (.tail _ (.tail _ (.head _))))))) | exact .tail _ (.tail _ (.tail _ (.tail _ (.tail _ (.tail _ (.tail _ (.tail _ (.head _)))))))) | exact .tail _ (.tail _ (.tail _ (.tail _ (.tail _ (.tail _ (.tail _ (.tail _ (.tail _ (.head _))))))))) | exact .tail _ (.tail _ (.tail _ (.tail _ (.tail _ (.tail _ (.tail _ (.tail _ (.tail _ (.tail _ (.head _)))))))))) | exact .tail _ (.tail _ (.tail _ (.tail _ (.tail _ (.tail _ (.tail _ (.tail _ (.tail _ (.tail _ (.tail _ (.head _))))))))))) | exact .tail _ (.tail _ (.tail _ (.tail _ (.tail _ (.tail _ (.tail _ (.tail _ (.tail _ (.tail _ (.tail _ (.tail _ (.head _)))))))))))) | exact .tail _ (.tail _ (.tail _ (.tail _ (.tail _ (.tail _ (.tail _ (.tail _ (.tail _ (.tail _ (.tail _ (.tail _ (.tail _ (.head _)))))))))))))) (by rfl)) ?_
  refine GL_y rfl rfl (Y_len sl25 rfl) ?_
  refine GL_y rfl rfl (Y_leqN rfl rfl) ?_
  refine GL_callP rfl rfl rfl rfl Try.call23 .nil (fun w hw => need_is) ?_ ?_ ?_
  rotate_left
  · -- it panicked
    rintro c N ⟨rfl, ⟨_, h⟩ | ⟨hb, h⟩⟩
    · cases h
    injection h with h
    subst h
    (repeat (first | (with_reducible refine R_then_panic ?_) | (with_reducible refine R_block_panic ?_)))
    exact R_panic [⟨rb, 53, tot, [.slice ra rl rc], (0, 0)⟩] (by repeat (first | exact .nil | exact Pick.rfl' _ | exact Pick.skip (Pick.rfl' _) | exact Pick.skip (Pick.skip (Pick.rfl' _)) | (apply Pick.cons; focus (first | exact .head | exact (.tail .head) | exact (.tail (.tail .head)) | exact (.tail (.tail (.tail .head))) | exact (.tail (.tail (.tail (.tail .head)))) | exact (.tail (.tail (.tail (.tail (.tail .head))))) | exact (.tail (.tail (.tail (.tail (.tail (.tail .head)))))) | exact (.tail (.tail (.tail (.tail (.tail (.tail (.tail .head))))))) | exact (.tail (.tail (.tail (.tail (.tail (.tail (.tail (.tail .head)))))))) | exact (.tail (.tail (.tail (.tail (.tail (.tail (.tail (.tail (.tail .head))))))))) | exact (.tail (.tail (.tail (.tail (.tail (.tail (.tail (.tail (.tail (.tail .head)))))))))) | exact (.tail (.tail (.tail (.tail (.tail (.tail (.tail (.tail (.tail (.tail (.tail .head))))))))))) | exact (.tail (.tail (.tail (.tail (.tail (.tail (.tail (.tail (.tail (.tail (.tail (.tail .head)))))))))))) | exact (.tail (.tail (.tail (.tail (.tail (.tail (.tail (.tail (.tail (.tail (.tail (.tail (.tail .head))))))))))))))))) (.inr ⟨by have := of_decide_eq_false hb; omega, rfl, rfl⟩)
  · -- outgrown
    rintro N ⟨_, ⟨_, h⟩ | ⟨_, h⟩⟩ <;> cases h
  rintro v N ⟨rfl, ⟨hb, h⟩ | ⟨_, h⟩⟩
  rotate_left
  · cases h
  injection h with h
  subst h
  have hn := of_decide_eq_true hb
  refine GL_nil ?_
  (repeat (first | (with_reducible refine R_seq ?_) | (with_reducible refine R_block_normal ?_)))
  (repeat (with_reducible refine G_seq ?_))
  refine G_region ?_
  refine GL_y rfl rfl (Y_move rfl) ?_
  refine GL_y rfl rfl (Y_nilCheck rfl) ?_
  refine GL_y rfl rfl (Y_field fd53_0 rfl) ?_
  refine GL_y rfl rfl (Y_loadS rfl sc25 (by first | exact .head _ | exact .tail _ (.head _) | exact .tail _ (.tail _ (.head _)) | exact .tail _ (.tail _ (.tail _ (.head _))) | exact .tail _ (.tail _ (.tail _ (.tail _ (.head _)))) | exact .tail _ (.tail _ (.tail _ (.tail _ (.tail _ (.head _))))) | exact .tail _ (.tail _ (.tail _ (.tail _ (.tail _ (.tail _ (.head _)))))) | exact .tail _ (.tail _ (.tail _ (.tail _ (.tail _ (.tail _ (.tail _ (.head _))))))) | exact .tail _ (.tail _ (.tail _ (.tail _ (.tail _ (.tail _ (.tail _ (.tail _ (.head _)))))))) | exact .tail _ (.tail _ (.tail _ (.tail _ (.tail _ (.tail _ (.tail _ (.tail _ (.tail _ (.head _))))))))) | exact .tail _ (.tail _ (.tail _ (.tail _ (.tail _ (.tail _ (.tail _ (.tail _ (.tail _ (.tail _ (.head _)))))))))) | exact .tail _ (.tail _ (.tail _ (.tail _ (.tail _ (.tail _ (.tail _ (.tail _ (.tail _ (.tail _ (.tail _ (.head _))))))))))) | exact .tail _ (.tail _ (.tail _ (.tail _ (.tail _ (.tail _ (.tail _ (.tail _ (.tail _ (.tail _ (.tail _ (.tail _ (.head _)))))))))))) | exact .tail _ (.tail _ (.tail _ (.tail _ (.tail _ (.tail _ (.tail _ (.tail _ (.tail _ (.tail _ (.tail _ (.tail _ (.tail _ (.head _)))))))))))))) (by rfl)) ?_
  refine GL_y rfl rfl (Y_move rfl) ?_
  refine GL_y rfl rfl ((Y_slS (vl := none) (vh := some _) (kl := 0) (kh := n) sl25 rfl rfl rfl rfl ⟨_, rfl⟩ (by omega) (by omega) hc).as (.slice ra n rc) (by simp [subA_zero])) ?_
  refine GL_y rfl rfl (Y_assign rfl) ?_
  refine GL_nil ?_
  (repeat (first | (with_reducible refine R_seq ?_) | (with_reducible refine R_block_normal ?_)))
  (repeat (with_reducible refine G_seq ?_))
  refine G_region ?_
  refine GL_y rfl rfl (Y_move rfl) ?_
  refine GL_y rfl rfl (Y_move rfl) ?_
  refine GL_y rfl rfl (Y_nilCheck rfl) ?_
  refine GL_y rfl rfl (Y_field fd53_0 rfl) ?_
  refine GL_y rfl rfl (Y_loadS rfl sc25 (by first | exact .head _ | exact .tail _ (.head _) | exact .tail _ (.tail _ (.head _)) | exact .tail _ (.tail _ (.tail _ (.head _))) | exact .tail _ (.tail _ (.tail _ (.tail _ (.head _)))) | exact .tail _ (.tail _ (.tail _ (.tail _ (.tail _ (.head _))))) | exact .tail _ (.tail _ (.tail _ (.tail _ (.tail _ (.tail _ (.head _)))))) | exact .tail _ (.tail _ (.tail _ (.tail _ (.tail _ (.tail _ (.tail _ (.head _))))))) | exact .tail _ (.tail _ (.tail _ (.tail _ (.tail _ (.tail _ (.tail _ (.tail _ (.head _)))))))) | exact .tail _ (.tail _ (.tail _ (.tail _ (.tail _ (.tail _ (.tail _ (.tail _ (.tail _ (.head _))))))))) | exact .tail _ (.tail _ (.tail _ (.tail _ (.tail _ (.tail _ (.tail _ (.tail _ (.tail _ (.tail _ (.head _)))))))))) | exact .tail _ (.tail _ (.tail _ (.tail _ (.tail _ (.tail _ (.tail _ (.tail _ (.tail _ (.tail _ (.tail _ (.head _))))))))))) | exact .tail _ (.tail _ (.tail _ (.tail _ (.tail _ (.tail _ (.tail _ (.tail _ (.tail _ (.tail _ (.tail _ (.tail _ (.head _)))))))))))) | exact .tail _ (.tail _ (.tail _ (.tail _ (.tail _ (.tail _ (.tail _ (.tail _ (.tail _ (.tail _ (.tail _ (.tail _ (.tail _ (.head _)))))))))))))) (by rfl)) ?_
  refine GL_y rfl rfl (Y_move rfl) ?_
  refine GL_y rfl rfl (Y_slS (vl := some _) (vh := none) (kl := n) (kh := rl) sl25 rfl rfl rfl ⟨_, rfl⟩ rfl hn hc hc) ?_
  refine GL_y rfl rfl (Y_nilCheck rfl) ?_
  refine GL_y rfl rfl (Y_field fd53_0 rfl) ?_
  refine GL_s rfl (S_sc rfl sc25 rfl rfl (by first | exact .head | exact (.tail .head) | exact (.tail (.tail .head)) | exact (.tail (.tail (.tail .head))) | exact (.tail (.tail (.tail (.tail .head)))) | exact (.tail (.tail (.tail (.tail (.tail .head))))) | exact (.tail (.tail (.tail (.tail (.tail (.tail .head)))))) | exact (.tail (.tail (.tail (.tail (.tail (.tail (.tail .head))))))) | exact (.tail (.tail (.tail (.tail (.tail (.tail (.tail (.tail .head)))))))) | exact (.tail (.tail (.tail (.tail (.tail (.tail (.tail (.tail (.tail .head))))))))) | exact (.tail (.tail (.tail (.tail (.tail (.tail (.tail (.tail (.tail (.tail .head)))))))))) | exact (.tail (.tail (.tail (.tail (.tail (.tail (.tail (.tail (.tail (.tail (.tail .head))))))))))) | exact (.tail (.tail (.tail (.tail (.tail (.tail (.tail (.tail (.tail (.tail (.tail (.tail .head)))))))))))) | exact (.tail (.tail (.tail (.tail (.tail (.tail (.tail (.tail (.tail (.tail (.tail (.tail (.tail .head)))))))))))))) (by rfl)) ?_
  refine GL_nil ?_
  (repeat (first | (with_reducible refine R_seq ?_) | (with_reducible refine R_block_normal ?_)))
  (repeat (with_reducible refine G_seq ?_))
  refine G_region ?_
  refine GL_y rfl rfl (Y_move rfl) ?_
  refine GL_y rfl rfl (Y_assign rfl) ?_
  refine GL_nil ?_
  (repeat (first | (with_reducible refine R_seq ?_) | (with_reducible refine R_block_normal ?_)))
  (repeat (with_reducible refine G_seq ?_))
  refine G_ret ?_
  (repeat (first | (with_reducible refine R_then_ret ?_) | (with_reducible refine R_block_ret ?_)))
  exact R_ret (.tmp rfl .nil) [⟨rb, 53, tot, [.slice (subA ra rc n 1) (rl - n) (rc - n)], (0, 0)⟩] (by repeat (first | exact .nil | exact Pick.rfl' _ | exact Pick.skip (Pick.rfl' _) | exact Pick.skip (Pick.skip (Pick.rfl' _)) | (apply Pick.cons; focus (first | exact .head | exact (.tail .head) | exact (.tail (.tail .head)) | exact (.tail (.tail (.tail .head))) | exact (.tail (.tail (.tail (.tail .head)))) | exact (.tail (.tail (.tail (.tail (.tail .head))))) | exact (.tail (.tail (.tail (.tail (.tail (.tail .head)))))) | exact (.tail (.tail (.tail (.tail (.tail (.tail (.tail .head))))))) | exact (.tail (.tail (.tail (.tail (.tail (.tail (.tail (.tail .head)))))))) | exact (.tail (.tail (.tail (.tail (.tail (.tail (.tail (.tail (.tail .head))))))))) | exact (.tail (.tail (.tail (.tail (.tail (.tail (.tail (.tail (.tail (.tail .head)))))))))) | exact (.tail (.tail (.tail (.tail (.tail (.tail (.tail (.tail (.tail (.tail (.tail .head))))))))))) | exact (.tail (.tail (.tail (.tail (.tail (.tail (.tail (.tail (.tail (.tail (.tail (.tail .head)))))))))))) | exact (.tail (.tail (.tail (.tail (.tail (.tail (.tail (.tail (.tail (.tail (.tail (.tail (.tail .head))))))))))))))))) (.inl ⟨hn, rfl, rfl⟩)
end Go.Proofs.Ythabomkcangegaa

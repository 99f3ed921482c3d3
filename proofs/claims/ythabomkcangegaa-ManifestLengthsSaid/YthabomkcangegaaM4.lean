/-
  lay, Four; Bytes; the document's May and Bytes.
-/
import Derived.Test.YthabomkcangegaaM3
import Derived.Test.YthabomkcangegaaME
import Derived.Test.YthabomkcangegaaSlG
namespace Go.Proofs.Ythabomkcangegaa
open Go Go.Sl Go.RowKit

theorem fd47_2 : TFld Try.prog 47 2 2 := TFld.mk' Try.underlying47 rfl rfl (by kernel_rfl) (by decide : 32 ≠ 0)
structure LI where
  j : Nat
  b : Nat
  c : Nat
  bs : List UInt8
  fr : Nat × Nat
theorem lay_len {bs : List UInt8} {zs : List Nat} {j : Nat} (h : j ≤ zs.length) : (bs ++ (zs.take j).flatMap le4).length = bs.length + j * 4 := by
  have e : ∀ l : List Nat, (l.flatMap le4).length = l.length * 4 := fun l => by
    induction l with
    | nil => rfl
    | cons x l ih => simp only [List.flatMap_cons, List.length_append, ih, List.length_cons, le4, List.length_nil]; omega
  rw [List.length_append, e, List.length_take]; omega
set_option maxHeartbeats 4000000 in
theorem lay_is {b c zc l zl : Nat} {bs : List UInt8} {fr : Nat × Nat} {zs : List Nat} {zao : Option Addr} {w : World} (hs : SlAt w zao ((zs.map fun z : Nat => (z : Int)).map (Value.int .i64))) (hne : adb zao ≠ b) (h0 : 0 < zs.length) (hzl : zs.length ≤ 1000) (hfr : fr = (0, 0) ∨ c = bs.length) (hb : bs.length ≤ 1000000)
    (e1 : l = bs.length) (e2 : zl = zs.length) :
    FnAt Try.prog 19 [.slice (some ⟨b, 0, none⟩) l c, .slice zao zl zc] [⟨b, 5, c * 1, B bs, fr⟩] w (Ret fun v N => ∃ b' c', (bs ++ zs.flatMap le4).length ≤ c' ∧ v = .slice (some ⟨b', 0, none⟩) (bs ++ zs.flatMap le4).length c' ∧ N = [⟨b', 5, c' * 1, B (bs ++ zs.flatMap le4), (0, 0)⟩]) := by
  subst e1; subst e2
  refine FnAt.intro Try.func19 rfl Try.ntmps19 rfl _ rfl ?_
  (repeat (with_reducible refine G_seq ?_))
  refine G_region ?_
  refine GL_y rfl rfl (Y_assign rfl) ?_
  refine GL_nil ?_
  (repeat (first | (with_reducible refine R_seq ?_) | (with_reducible refine R_block_normal ?_)))
  (repeat (with_reducible refine G_seq ?_))
  refine G_region ?_
  refine GL_y rfl rfl (Y_move rfl) ?_
  refine GL_y rfl rfl (Y_len sl49 rfl) ?_
  refine GL_y rfl rfl (Y_move rfl) ?_
  refine GL_nil ?_
  (repeat (first | (with_reducible refine R_seq ?_) | (with_reducible refine R_block_normal ?_)))
  (repeat (with_reducible refine G_seq ?_))
  refine G_block ?_
  (repeat (with_reducible refine G_seq ?_))
  refine G_loop (ι := LI) (fun i => zs.length - i.j) (fun i => i.j ≤ zs.length ∧ (i.fr = (0, 0) ∨ i.c = i.bs.length) ∧ (0 < i.j → i.fr = (0, 0) ∧ i.bs.length ≤ i.c) ∧ i.bs = bs ++ (zs.take i.j).flatMap le4) (fun i => [(0, .slice (some ⟨i.b, 0, none⟩) i.bs.length i.c), (7, .slice zao zs.length zc), (8, .int .i64 (zs.length : Int)), (9, .int .i64 (i.j : Int))]) (fun i => [⟨i.b, 5, i.c * 1, B i.bs, i.fr⟩]) ⟨0, b, c, bs, fr⟩ ?_ (⟨by first | rfl | decide, by first | rfl | decide, by first | rfl | decide, by first | rfl | decide, trivial⟩) (by repeat (first | exact .nil | exact Pick.rfl' _ | exact Pick.skip (Pick.rfl' _) | exact Pick.skip (Pick.skip (Pick.rfl' _)) | (apply Pick.cons; focus (first | exact .head | exact (.tail .head) | exact (.tail (.tail .head)) | exact (.tail (.tail (.tail .head))) | exact (.tail (.tail (.tail (.tail .head)))) | exact (.tail (.tail (.tail (.tail (.tail .head))))) | exact (.tail (.tail (.tail (.tail (.tail (.tail .head)))))) | exact (.tail (.tail (.tail (.tail (.tail (.tail (.tail .head))))))) | exact (.tail (.tail (.tail (.tail (.tail (.tail (.tail (.tail .head)))))))) | exact (.tail (.tail (.tail (.tail (.tail (.tail (.tail (.tail (.tail .head))))))))) | exact (.tail (.tail (.tail (.tail (.tail (.tail (.tail (.tail (.tail (.tail .head)))))))))) | exact (.tail (.tail (.tail (.tail (.tail (.tail (.tail (.tail (.tail (.tail (.tail .head))))))))))) | exact (.tail (.tail (.tail (.tail (.tail (.tail (.tail (.tail (.tail (.tail (.tail (.tail .head)))))))))))) | exact (.tail (.tail (.tail (.tail (.tail (.tail (.tail (.tail (.tail (.tail (.tail (.tail (.tail .head))))))))))))))))) ?_
  · exact ⟨by simp, hfr, fun h => by simp at h, by simp⟩
  intro i ⟨hi, hfr, hfr0, hbs⟩
  (repeat (with_reducible refine G_seq ?_))
  refine G_region ?_
  refine GL_y rfl rfl (Y_lssN rfl rfl) ?_
  refine GL_nil ?_
  (repeat (first | (with_reducible refine R_seq ?_) | (with_reducible refine R_block_normal ?_)))
  (repeat (with_reducible refine G_seq ?_))
  refine G_cond_dec rfl (fun ht10 => ?_) (fun ht10 => ?_)
  · -- yes
    (repeat (with_reducible refine G_seq ?_))
    refine G_skip ?_
    (repeat (first | (with_reducible refine R_seq ?_) | (with_reducible refine R_block_normal ?_)))
    (repeat (with_reducible refine G_seq ?_))
    refine G_block ?_
    obtain ⟨z, hz0⟩ : ∃ y, zs[i.j]? = some y := ⟨zs[i.j], List.getElem?_eq_getElem ht10⟩
    have hz : (zs.map fun z : Nat => (z : Int))[i.j]? = some (z : Int) := by simp [hz0]
    have hbl : i.bs.length = bs.length + i.j * 4 := by
      rw [hbs]; exact lay_len hi
    (repeat (with_reducible refine G_seq ?_))
    refine G_region ?_
    refine GL_y rfl rfl (Y_nAt (zs := zs.map fun z : Nat => (z : Int)) hs rfl rfl hz (by simp)) ?_
    refine GL_y rfl rfl (Y_nGet (zs := zs.map fun z : Nat => (z : Int)) hs (by simpa using hne) rfl hz) ?_
    refine GL_y rfl rfl (Y_assign rfl) ?_
    refine GL_nil ?_
    (repeat (first | (with_reducible refine R_seq ?_) | (with_reducible refine R_block_normal ?_)))
    (repeat (with_reducible refine G_seq ?_))
    refine G_region ?_
    refine GL_y rfl rfl (Y_move rfl) ?_
    refine GL_y rfl rfl (Y_move rfl) ?_
    refine GL_y rfl rfl (Y_byteN Try.underlying3 Try.underlying5 rfl) ?_
    refine GL_y rfl rfl (Y_move rfl) ?_
    refine GL_y rfl rfl (Y_shrN (b := 8) rfl rfl (by first | omega | decide)) ?_
    refine GL_y rfl rfl (Y_byteN Try.underlying3 Try.underlying5 rfl) ?_
    refine GL_y rfl rfl (Y_move rfl) ?_
    refine GL_y rfl rfl (Y_shrN (b := 16) rfl rfl (by first | omega | decide)) ?_
    refine GL_y rfl rfl (Y_byteN Try.underlying3 Try.underlying5 rfl) ?_
    refine GL_y rfl rfl (Y_move rfl) ?_
    refine GL_y rfl rfl (Y_shrN (b := 24) rfl rfl (by first | omega | decide)) ?_
    refine GL_y rfl rfl (Y_byteN Try.underlying3 Try.underlying5 rfl) ?_
    refine GL_w rfl rfl (W_bs (B (le4 z)) Try.underlying25 el5 (all_B _) (by simp [B, le4]) (by simp [B, le4]) rfl rfl fun b25 => ?_)
    refine GL_w rfl rfl (W_appB (le4 z) Try.underlying25 el5 rfl rfl (by first | exact .head | exact (.tail .head) | exact (.tail (.tail .head)) | exact (.tail (.tail (.tail .head))) | exact (.tail (.tail (.tail (.tail .head)))) | exact (.tail (.tail (.tail (.tail (.tail .head))))) | exact (.tail (.tail (.tail (.tail (.tail (.tail .head)))))) | exact (.tail (.tail (.tail (.tail (.tail (.tail (.tail .head))))))) | exact (.tail (.tail (.tail (.tail (.tail (.tail (.tail (.tail .head)))))))) | exact (.tail (.tail (.tail (.tail (.tail (.tail (.tail (.tail (.tail .head))))))))) | exact (.tail (.tail (.tail (.tail (.tail (.tail (.tail (.tail (.tail (.tail .head)))))))))) | exact (.tail (.tail (.tail (.tail (.tail (.tail (.tail (.tail (.tail (.tail (.tail .head))))))))))) | exact (.tail (.tail (.tail (.tail (.tail (.tail (.tail (.tail (.tail (.tail (.tail (.tail .head)))))))))))) | exact (.tail (.tail (.tail (.tail (.tail (.tail (.tail (.tail (.tail (.tail (.tail (.tail (.tail .head)))))))))))))) rfl rfl (hfr.imp_right fun h => ⟨h, by simp [le4]⟩) (fun w s => SlAt.mk' (s.cells (by first | exact .head _ | exact .tail _ (.head _) | exact .tail _ (.tail _ (.head _)) | exact .tail _ (.tail _ (.tail _ (.head _))) | exact .tail _ (.tail _ (.tail _ (.tail _ (.head _)))) | exact .tail _ (.tail _ (.tail _ (.tail _ (.tail _ (.head _))))) | exact .tail _ (.tail _ (.tail _ (.tail _ (.tail _ (.tail _ (.head _)))))) | exact .tail _ (.tail _ (.tail _ (.tail _ (.tail _ (.tail _ (.tail _ (.head _))))))) | exact .tail _ (.tail _ (.tail _ (.tail _ (.tail _ (.tail _ (.tail _ (.tail _ (.head _)))))))) | exact .tail _ (.tail _ (.tail _ (.tail _ (.tail _ (.tail _ (.tail _ (.tail _ (.tail _ (.head _))))))))) | exact .tail _ (.tail _ (.tail _ (.tail _ (.tail _ (.tail _ (.tail _ (.tail _ (.tail _ (.tail _ (.head _)))))))))) | exact .tail _ (.tail _ (.tail _ (.tail _ (.tail _ (.tail _ (.tail _ (.tail _ (.tail _ (.tail _ (.tail _ (.head _))))))))))) | exact .tail _ (.tail _ (.tail _ (.tail _ (.tail _ (.tail _ (.tail _ (.tail _ (.tail _ (.tail _ (.tail _ (.tail _ (.head _)))))))))))) | exact .tail _ (.tail _ (.tail _ (.tail _ (.tail _ (.tail _ (.tail _ (.tail _ (.tail _ (.tail _ (.tail _ (.tail _ (.tail _ (.head _)))))))))))))))) (by simp only [le4, List.length_cons, List.length_nil]; omega) fun b26 c26 h26 => ?_)
    refine GL_y rfl rfl (Y_assign rfl) ?_
    refine GL_nil ?_
    (repeat (first | (with_reducible refine R_seq ?_) | (with_reducible refine R_block_normal ?_)))
    (repeat (with_reducible refine G_seq ?_))
    refine G_region ?_
    refine GL_y rfl rfl (Y_addN (b := 1) rfl rfl (by first | omega | decide)) ?_
    refine GL_y rfl rfl (Y_move rfl) ?_
    refine GL_nil ?_
    (repeat (first | (with_reducible refine R_seq ?_) | (with_reducible refine R_block_normal ?_)))
    (repeat (with_reducible refine R_block_normal ?_))
    refine R_fam ⟨i.j + 1, b26, c26, i.bs ++ le4 z, (0, 0)⟩ ?_ (⟨by first | rfl | decide, by first | rfl | decide, by first | rfl | decide, by first | rfl | decide, trivial⟩) (by repeat (first | exact .nil | exact Pick.rfl' _ | exact Pick.skip (Pick.rfl' _) | exact Pick.skip (Pick.skip (Pick.rfl' _)) | (apply Pick.cons; focus (first | exact .head | exact (.tail .head) | exact (.tail (.tail .head)) | exact (.tail (.tail (.tail .head))) | exact (.tail (.tail (.tail (.tail .head)))) | exact (.tail (.tail (.tail (.tail (.tail .head))))) | exact (.tail (.tail (.tail (.tail (.tail (.tail .head)))))) | exact (.tail (.tail (.tail (.tail (.tail (.tail (.tail .head))))))) | exact (.tail (.tail (.tail (.tail (.tail (.tail (.tail (.tail .head)))))))) | exact (.tail (.tail (.tail (.tail (.tail (.tail (.tail (.tail (.tail .head))))))))) | exact (.tail (.tail (.tail (.tail (.tail (.tail (.tail (.tail (.tail (.tail .head)))))))))) | exact (.tail (.tail (.tail (.tail (.tail (.tail (.tail (.tail (.tail (.tail (.tail .head))))))))))) | exact (.tail (.tail (.tail (.tail (.tail (.tail (.tail (.tail (.tail (.tail (.tail (.tail .head)))))))))))) | exact (.tail (.tail (.tail (.tail (.tail (.tail (.tail (.tail (.tail (.tail (.tail (.tail (.tail .head)))))))))))))))))
    refine ⟨⟨by simp only; omega, .inl rfl, fun _ => ⟨rfl, h26⟩, ?_⟩, by simp only; omega⟩
    rw [List.take_add_one, hz0, hbs]; simp
  · -- no
    (repeat (with_reducible refine G_seq ?_))
    refine G_exit ?_
    (repeat (first | (with_reducible refine R_then_exit ?_) | (with_reducible refine R_block_exit ?_) | (with_reducible refine R_block_other (by decide) ?_)))
    (repeat (first | (with_reducible refine R_seq ?_) | (with_reducible refine R_block_normal ?_)))
    (repeat (with_reducible refine G_seq ?_))
    refine G_region ?_
    refine GL_y rfl rfl (Y_move rfl) ?_
    refine GL_y rfl rfl (Y_assign rfl) ?_
    refine GL_nil ?_
    (repeat (first | (with_reducible refine R_seq ?_) | (with_reducible refine R_block_normal ?_)))
    (repeat (with_reducible refine G_seq ?_))
    refine G_ret ?_
    (repeat (first | (with_reducible refine R_then_ret ?_) | (with_reducible refine R_block_ret ?_)))
    obtain ⟨hf0, hcl⟩ := hfr0 (by omega)
    have hall : i.bs = bs ++ zs.flatMap le4 := by rw [hbs, List.take_of_length_le (by omega)]
    rw [hall] at hcl
    refine R_ret (.tmp rfl .nil) [⟨i.b, 5, i.c * 1, B i.bs, i.fr⟩] (by repeat (first | exact .nil | exact Pick.rfl' _ | exact Pick.skip (Pick.rfl' _) | exact Pick.skip (Pick.skip (Pick.rfl' _)) | (apply Pick.cons; focus (first | exact .head | exact (.tail .head) | exact (.tail (.tail .head)) | exact (.tail (.tail (.tail .head))) | exact (.tail (.tail (.tail (.tail .head)))) | exact (.tail (.tail (.tail (.tail (.tail .head))))) | exact (.tail (.tail (.tail (.tail (.tail (.tail .head)))))) | exact (.tail (.tail (.tail (.tail (.tail (.tail (.tail .head))))))) | exact (.tail (.tail (.tail (.tail (.tail (.tail (.tail (.tail .head)))))))) | exact (.tail (.tail (.tail (.tail (.tail (.tail (.tail (.tail (.tail .head))))))))) | exact (.tail (.tail (.tail (.tail (.tail (.tail (.tail (.tail (.tail (.tail .head)))))))))) | exact (.tail (.tail (.tail (.tail (.tail (.tail (.tail (.tail (.tail (.tail (.tail .head))))))))))) | exact (.tail (.tail (.tail (.tail (.tail (.tail (.tail (.tail (.tail (.tail (.tail (.tail .head)))))))))))) | exact (.tail (.tail (.tail (.tail (.tail (.tail (.tail (.tail (.tail (.tail (.tail (.tail (.tail .head))))))))))))))))) ⟨i.b, i.c, hcl, by rw [hall]; rfl, by rw [hall, hf0]⟩
set_option maxHeartbeats 4000000 in
theorem four_is {n : Nat} {w : World} (hn : n < 9223372036854775808) : FnAt Try.prog 21 [.int .i64 (n : Int)] [] w (Ret fun v N => ∃ b c, v = .slice (some ⟨b, 0, none⟩) (le4 n).length c ∧ N = [⟨b, 5, c * 1, B (le4 n), (0, 0)⟩]) := by
  have hle : [UInt8.ofNat (n % 256)] ++ [UInt8.ofNat (n / 256 % 256)] ++ [UInt8.ofNat (n / 256 / 256 % 256)] ++ [UInt8.ofNat (n / 256 / 256 / 256 % 256)] = le4 n := by
    simp only [u8mod, Nat.div_div_eq_div_mul]; rfl
  refine FnAt.intro Try.func21 rfl Try.ntmps21 rfl _ rfl ?_
  (repeat (with_reducible refine G_seq ?_))
  refine G_region ?_
  refine GL_y rfl rfl (Y_assign rfl) ?_
  refine GL_nil ?_
  (repeat (first | (with_reducible refine R_seq ?_) | (with_reducible refine R_block_normal ?_)))
  (repeat (with_reducible refine G_seq ?_))
  refine G_region ?_
  refine GL_y rfl rfl (Y_assign rfl) ?_
  refine GL_nil ?_
  (repeat (first | (with_reducible refine R_seq ?_) | (with_reducible refine R_block_normal ?_)))
  (repeat (with_reducible refine G_seq ?_))
  refine G_region ?_
  refine GL_y rfl rfl (Y_assign rfl) ?_
  refine GL_nil ?_
  (repeat (first | (with_reducible refine R_seq ?_) | (with_reducible refine R_block_normal ?_)))
  (repeat (with_reducible refine G_seq ?_))
  refine G_block ?_
  (repeat (with_reducible refine G_seq ?_))
  refine G_rounds 4 ?_
  -- round 0 of loop 0
  (repeat (with_reducible refine G_seq ?_))
  refine G_region ?_
  refine GL_y rfl rfl (Y_move rfl) ?_
  refine GL_y rfl rfl (Y_iop rfl rfl rfl) ?_
  refine GL_nil ?_
  (repeat (first | (with_reducible refine R_seq ?_) | (with_reducible refine R_block_normal ?_)))
  (repeat (with_reducible refine G_seq ?_))
  refine G_cond_t rfl (by first | rfl | decide) ?_
  (repeat (with_reducible refine G_seq ?_))
  refine G_skip ?_
  (repeat (first | (with_reducible refine R_seq ?_) | (with_reducible refine R_block_normal ?_)))
  (repeat (with_reducible refine G_seq ?_))
  refine G_block ?_
  (repeat (with_reducible refine G_seq ?_))
  refine G_region ?_
  refine GL_y rfl rfl (Y_move rfl) ?_
  refine GL_y rfl rfl (Y_move rfl) ?_
  refine GL_y rfl rfl (Y_remN (b := 256) rfl rfl (by first | omega | decide)) ?_
  refine GL_y rfl rfl (Y_byteN Try.underlying3 Try.underlying5 rfl) ?_
  refine GL_w rfl rfl (W_bs (B [UInt8.ofNat (n % 256)]) Try.underlying25 el5 (all_B _) (by simp [B]) (by simp [B]) rfl rfl fun b13_0 => ?_)
  refine GL_w rfl rfl (W_appNilB ([UInt8.ofNat (n % 256)]) Try.underlying25 el5 rfl rfl rfl (by simp) (fun w s => SlAt.mk' (s.cells (by first | exact .head _ | exact .tail _ (.head _) | exact .tail _ (.tail _ (.head _)) | exact .tail _ (.tail _ (.tail _ (.head _))) | exact .tail _ (.tail _ (.tail _ (.tail _ (.head _)))) | exact .tail _ (.tail _ (.tail _ (.tail _ (.tail _ (.head _))))) | exact .tail _ (.tail _ (.tail _ (.tail _ (.tail _ (.tail _ (.head _)))))) | exact .tail _ (.tail _ (.tail _ (.tail _ (.tail _ (.tail _ (.tail _ (.head _))))))) | exact .tail _ (.tail _ (.tail _ (.tail _ (.tail _ (.tail _ (.tail _ (.tail _ (.head _)))))))) | exact .tail _ (.tail _ (.tail _ (.tail _ (.tail _ (.tail _ (.tail _ (.tail _ (.tail _ (.head _))))))))) | exact .tail _ (.tail _ (.tail _ (.tail _ (.tail _ (.tail _ (.tail _ (.tail _ (.tail _ (.tail _ (.head _)))))))))) | exact .tail _ (.tail _ (.tail _ (.tail _ (.tail _ (.tail _ (.tail _ (.tail _ (.tail _ (.tail _ (.tail _ (.head _))))))))))) | exact .tail _ (.tail _ (.tail _ (.tail _ (.tail _ (.tail _ (.tail _ (.tail _ (.tail _ (.tail _ (.tail _ (.tail _ (.head _)))))))))))) | exact .tail _ (.tail _ (.tail _ (.tail _ (.tail _ (.tail _ (.tail _ (.tail _ (.tail _ (.tail _ (.tail _ (.tail _ (.tail _ (.head _)))))))))))))))) (by simp) fun b14_0 c14_0 h14_0 => ?_)
  refine GL_y rfl rfl (Y_assign rfl) ?_
  refine GL_nil ?_
  (repeat (first | (with_reducible refine R_seq ?_) | (with_reducible refine R_block_normal ?_)))
  (repeat (with_reducible refine G_seq ?_))
  refine G_region ?_
  refine GL_y rfl rfl (Y_move rfl) ?_
  refine GL_y rfl rfl (Y_quoN (b := 256) rfl rfl (by decide) (by omega)) ?_
  refine GL_y rfl rfl (Y_assign rfl) ?_
  refine GL_nil ?_
  (repeat (first | (with_reducible refine R_seq ?_) | (with_reducible refine R_block_normal ?_)))
  (repeat (with_reducible refine G_seq ?_))
  refine G_region ?_
  refine GL_y rfl rfl (Y_move rfl) ?_
  refine GL_y rfl rfl (Y_iop (v := .int .i64 1) rfl rfl rfl) ?_
  refine GL_y rfl rfl (Y_assign rfl) ?_
  refine GL_nil ?_
  (repeat (first | (with_reducible refine R_seq ?_) | (with_reducible refine R_block_normal ?_)))
  (repeat (first | (with_reducible refine R_block_normal ?_) | (with_reducible refine R_round ?_)))
  -- round 1 of loop 0
  (repeat (with_reducible refine G_seq ?_))
  refine G_region ?_
  refine GL_y rfl rfl (Y_move rfl) ?_
  refine GL_y rfl rfl (Y_iop rfl rfl rfl) ?_
  refine GL_nil ?_
  (repeat (first | (with_reducible refine R_seq ?_) | (with_reducible refine R_block_normal ?_)))
  (repeat (with_reducible refine G_seq ?_))
  refine G_cond_t rfl (by first | rfl | decide) ?_
  (repeat (with_reducible refine G_seq ?_))
  refine G_skip ?_
  (repeat (first | (with_reducible refine R_seq ?_) | (with_reducible refine R_block_normal ?_)))
  (repeat (with_reducible refine G_seq ?_))
  refine G_block ?_
  (repeat (with_reducible refine G_seq ?_))
  refine G_region ?_
  refine GL_y rfl rfl (Y_move rfl) ?_
  refine GL_y rfl rfl (Y_move rfl) ?_
  refine GL_y rfl rfl (Y_remN (b := 256) rfl rfl (by first | omega | decide)) ?_
  refine GL_y rfl rfl (Y_byteN Try.underlying3 Try.underlying5 rfl) ?_
  refine GL_w rfl rfl (W_bs (B [UInt8.ofNat (n / 256 % 256)]) Try.underlying25 el5 (all_B _) (by simp [B]) (by simp [B]) rfl rfl fun b13_1 => ?_)
  refine GL_w rfl rfl (W_appB ([UInt8.ofNat (n / 256 % 256)]) Try.underlying25 el5 rfl rfl (by first | exact .head | exact (.tail .head) | exact (.tail (.tail .head)) | exact (.tail (.tail (.tail .head))) | exact (.tail (.tail (.tail (.tail .head)))) | exact (.tail (.tail (.tail (.tail (.tail .head))))) | exact (.tail (.tail (.tail (.tail (.tail (.tail .head)))))) | exact (.tail (.tail (.tail (.tail (.tail (.tail (.tail .head))))))) | exact (.tail (.tail (.tail (.tail (.tail (.tail (.tail (.tail .head)))))))) | exact (.tail (.tail (.tail (.tail (.tail (.tail (.tail (.tail (.tail .head))))))))) | exact (.tail (.tail (.tail (.tail (.tail (.tail (.tail (.tail (.tail (.tail .head)))))))))) | exact (.tail (.tail (.tail (.tail (.tail (.tail (.tail (.tail (.tail (.tail (.tail .head))))))))))) | exact (.tail (.tail (.tail (.tail (.tail (.tail (.tail (.tail (.tail (.tail (.tail (.tail .head)))))))))))) | exact (.tail (.tail (.tail (.tail (.tail (.tail (.tail (.tail (.tail (.tail (.tail (.tail (.tail .head)))))))))))))) rfl rfl (.inl rfl) (fun w s => SlAt.mk' (s.cells (by first | exact .head _ | exact .tail _ (.head _) | exact .tail _ (.tail _ (.head _)) | exact .tail _ (.tail _ (.tail _ (.head _))) | exact .tail _ (.tail _ (.tail _ (.tail _ (.head _)))) | exact .tail _ (.tail _ (.tail _ (.tail _ (.tail _ (.head _))))) | exact .tail _ (.tail _ (.tail _ (.tail _ (.tail _ (.tail _ (.head _)))))) | exact .tail _ (.tail _ (.tail _ (.tail _ (.tail _ (.tail _ (.tail _ (.head _))))))) | exact .tail _ (.tail _ (.tail _ (.tail _ (.tail _ (.tail _ (.tail _ (.tail _ (.head _)))))))) | exact .tail _ (.tail _ (.tail _ (.tail _ (.tail _ (.tail _ (.tail _ (.tail _ (.tail _ (.head _))))))))) | exact .tail _ (.tail _ (.tail _ (.tail _ (.tail _ (.tail _ (.tail _ (.tail _ (.tail _ (.tail _ (.head _)))))))))) | exact .tail _ (.tail _ (.tail _ (.tail _ (.tail _ (.tail _ (.tail _ (.tail _ (.tail _ (.tail _ (.tail _ (.head _))))))))))) | exact .tail _ (.tail _ (.tail _ (.tail _ (.tail _ (.tail _ (.tail _ (.tail _ (.tail _ (.tail _ (.tail _ (.tail _ (.head _)))))))))))) | exact .tail _ (.tail _ (.tail _ (.tail _ (.tail _ (.tail _ (.tail _ (.tail _ (.tail _ (.tail _ (.tail _ (.tail _ (.tail _ (.head _)))))))))))))))) (by simp) fun b14_1 c14_1 h14_1 => ?_)
  refine GL_y rfl rfl (Y_assign rfl) ?_
  refine GL_nil ?_
  (repeat (first | (with_reducible refine R_seq ?_) | (with_reducible refine R_block_normal ?_)))
  (repeat (with_reducible refine G_seq ?_))
  refine G_region ?_
  refine GL_y rfl rfl (Y_move rfl) ?_
  refine GL_y rfl rfl (Y_quoN (b := 256) rfl rfl (by decide) (by omega)) ?_
  refine GL_y rfl rfl (Y_assign rfl) ?_
  refine GL_nil ?_
  (repeat (first | (with_reducible refine R_seq ?_) | (with_reducible refine R_block_normal ?_)))
  (repeat (with_reducible refine G_seq ?_))
  refine G_region ?_
  refine GL_y rfl rfl (Y_move rfl) ?_
  refine GL_y rfl rfl (Y_iop (v := .int .i64 2) rfl rfl rfl) ?_
  refine GL_y rfl rfl (Y_assign rfl) ?_
  refine GL_nil ?_
  (repeat (first | (with_reducible refine R_seq ?_) | (with_reducible refine R_block_normal ?_)))
  (repeat (first | (with_reducible refine R_block_normal ?_) | (with_reducible refine R_round ?_)))
  -- round 2 of loop 0
  (repeat (with_reducible refine G_seq ?_))
  refine G_region ?_
  refine GL_y rfl rfl (Y_move rfl) ?_
  refine GL_y rfl rfl (Y_iop rfl rfl rfl) ?_
  refine GL_nil ?_
  (repeat (first | (with_reducible refine R_seq ?_) | (with_reducible refine R_block_normal ?_)))
  (repeat (with_reducible refine G_seq ?_))
  refine G_cond_t rfl (by first | rfl | decide) ?_
  (repeat (with_reducible refine G_seq ?_))
  refine G_skip ?_
  (repeat (first | (with_reducible refine R_seq ?_) | (with_reducible refine R_block_normal ?_)))
  (repeat (with_reducible refine G_seq ?_))
  refine G_block ?_
  (repeat (with_reducible refine G_seq ?_))
  refine G_region ?_
  refine GL_y rfl rfl (Y_move rfl) ?_
  refine GL_y rfl rfl (Y_move rfl) ?_
  refine GL_y rfl rfl (Y_remN (b := 256) rfl rfl (by first | omega | decide)) ?_
  refine GL_y rfl rfl (Y_byteN Try.underlying3 Try.underlying5 rfl) ?_
  refine GL_w rfl rfl (W_bs (B [UInt8.ofNat (n / 256 / 256 % 256)]) Try.underlying25 el5 (all_B _) (by simp [B]) (by simp [B]) rfl rfl fun b13_2 => ?_)
  refine GL_w rfl rfl (W_appB ([UInt8.ofNat (n / 256 / 256 % 256)]) Try.underlying25 el5 rfl rfl (by first | exact .head | exact (.tail .head) | exact (.tail (.tail .head)) | exact (.tail (.tail (.tail .head))) | exact (.tail (.tail (.tail (.tail .head)))) | exact (.tail (.tail (.tail (.tail (.tail .head))))) | exact (.tail (.tail (.tail (.tail (.tail (.tail .head)))))) | exact (.tail (.tail (.tail (.tail (.tail (.tail (.tail .head))))))) | exact (.tail (.tail (.tail (.tail (.tail (.tail (.tail (.tail .head)))))))) | exact (.tail (.tail (.tail (.tail (.tail (.tail (.tail (.tail (.tail .head))))))))) | exact (.tail (.tail (.tail (.tail (.tail (.tail (.tail (.tail (.tail (.tail .head)))))))))) | exact (.tail (.tail (.tail (.tail (.tail (.tail (.tail (.tail (.tail (.tail (.tail .head))))))))))) | exact (.tail (.tail (.tail (.tail (.tail (.tail (.tail (.tail (.tail (.tail (.tail (.tail .head)))))))))))) | exact (.tail (.tail (.tail (.tail (.tail (.tail (.tail (.tail (.tail (.tail (.tail (.tail (.tail .head)))))))))))))) rfl rfl (.inl rfl) (fun w s => SlAt.mk' (s.cells (by first | exact .head _ | exact .tail _ (.head _) | exact .tail _ (.tail _ (.head _)) | exact .tail _ (.tail _ (.tail _ (.head _))) | exact .tail _ (.tail _ (.tail _ (.tail _ (.head _)))) | exact .tail _ (.tail _ (.tail _ (.tail _ (.tail _ (.head _))))) | exact .tail _ (.tail _ (.tail _ (.tail _ (.tail _ (.tail _ (.head _)))))) | exact .tail _ (.tail _ (.tail _ (.tail _ (.tail _ (.tail _ (.tail _ (.head _))))))) | exact .tail _ (.tail _ (.tail _ (.tail _ (.tail _ (.tail _ (.tail _ (.tail _ (.head _)))))))) | exact .tail _ (.tail _ (.tail _ (.tail _ (.tail _ (.tail _ (.tail _ (.tail _ (.tail _ (.head _))))))))) | exact .tail _ (.tail _ (.tail _ (.tail _ (.tail _ (.tail _ (.tail _ (.tail _ (.tail _ (.tail _ (.head _)))))))))) | exact .tail _ (.tail _ (.tail _ (.tail _ (.tail _ (.tail _ (.tail _ (.tail _ (.tail _ (.tail _ (.tail _ (.head _))))))))))) | exact .tail _ (.tail _ (.tail _ (.tail _ (.tail _ (.tail _ (.tail _ (.tail _ (.tail _ (.tail _ (.tail _ (.tail _ (.head _)))))))))))) | exact .tail _ (.tail _ (.tail _ (.tail _ (.tail _ (.tail _ (.tail _ (.tail _ (.tail _ (.tail _ (.tail _ (.tail _ (.tail _ (.head _)))))))))))))))) (by simp) fun b14_2 c14_2 h14_2 => ?_)
  refine GL_y rfl rfl (Y_assign rfl) ?_
  refine GL_nil ?_
  (repeat (first | (with_reducible refine R_seq ?_) | (with_reducible refine R_block_normal ?_)))
  (repeat (with_reducible refine G_seq ?_))
  refine G_region ?_
  refine GL_y rfl rfl (Y_move rfl) ?_
  refine GL_y rfl rfl (Y_quoN (b := 256) rfl rfl (by decide) (by omega)) ?_
  refine GL_y rfl rfl (Y_assign rfl) ?_
  refine GL_nil ?_
  (repeat (first | (with_reducible refine R_seq ?_) | (with_reducible refine R_block_normal ?_)))
  (repeat (with_reducible refine G_seq ?_))
  refine G_region ?_
  refine GL_y rfl rfl (Y_move rfl) ?_
  refine GL_y rfl rfl (Y_iop (v := .int .i64 3) rfl rfl rfl) ?_
  refine GL_y rfl rfl (Y_assign rfl) ?_
  refine GL_nil ?_
  (repeat (first | (with_reducible refine R_seq ?_) | (with_reducible refine R_block_normal ?_)))
  (repeat (first | (with_reducible refine R_block_normal ?_) | (with_reducible refine R_round ?_)))
  -- round 3 of loop 0
  (repeat (with_reducible refine G_seq ?_))
  refine G_region ?_
  refine GL_y rfl rfl (Y_move rfl) ?_
  refine GL_y rfl rfl (Y_iop rfl rfl rfl) ?_
  refine GL_nil ?_
  (repeat (first | (with_reducible refine R_seq ?_) | (with_reducible refine R_block_normal ?_)))
  (repeat (with_reducible refine G_seq ?_))
  refine G_cond_t rfl (by first | rfl | decide) ?_
  (repeat (with_reducible refine G_seq ?_))
  refine G_skip ?_
  (repeat (first | (with_reducible refine R_seq ?_) | (with_reducible refine R_block_normal ?_)))
  (repeat (with_reducible refine G_seq ?_))
  refine G_block ?_
  (repeat (with_reducible refine G_seq ?_))
  refine G_region ?_
  refine GL_y rfl rfl (Y_move rfl) ?_
  refine GL_y rfl rfl (Y_move rfl) ?_
  refine GL_y rfl rfl (Y_remN (b := 256) rfl rfl (by first | omega | decide)) ?_
  refine GL_y rfl rfl (Y_byteN Try.underlying3 Try.underlying5 rfl) ?_
  refine GL_w rfl rfl (W_bs (B [UInt8.ofNat (n / 256 / 256 / 256 % 256)]) Try.underlying25 el5 (all_B _) (by simp [B]) (by simp [B]) rfl rfl fun b13_3 => ?_)
  refine GL_w rfl rfl (W_appB ([UInt8.ofNat (n / 256 / 256 / 256 % 256)]) Try.underlying25 el5 rfl rfl (by first | exact .head | exact (.tail .head) | exact (.tail (.tail .head)) | exact (.tail (.tail (.tail .head))) | exact (.tail (.tail (.tail (.tail .head)))) | exact (.tail (.tail (.tail (.tail (.tail .head))))) | exact (.tail (.tail (.tail (.tail (.tail (.tail .head)))))) | exact (.tail (.tail (.tail (.tail (.tail (.tail (.tail .head))))))) | exact (.tail (.tail (.tail (.tail (.tail (.tail (.tail (.tail .head)))))))) | exact (.tail (.tail (.tail (.tail (.tail (.tail (.tail (.tail (.tail .head))))))))) | exact (.tail (.tail (.tail (.tail (.tail (.tail (.tail (.tail (.tail (.tail .head)))))))))) | exact (.tail (.tail (.tail (.tail (.tail (.tail (.tail (.tail (.tail (.tail (.tail .head))))))))))) | exact (.tail (.tail (.tail (.tail (.tail (.tail (.tail (.tail (.tail (.tail (.tail (.tail .head)))))))))))) | exact (.tail (.tail (.tail (.tail (.tail (.tail (.tail (.tail (.tail (.tail (.tail (.tail (.tail .head)))))))))))))) rfl rfl (.inl rfl) (fun w s => SlAt.mk' (s.cells (by first | exact .head _ | exact .tail _ (.head _) | exact .tail _ (.tail _ (.head _)) | exact .tail _ (.tail _ (.tail _ (.head _))) | exact .tail _ (.tail _ (.tail _ (.tail _ (.head _)))) | exact .tail _ (.tail _ (.tail _ (.tail _ (.tail _ (.head _))))) | exact .tail _ (.tail _ (.tail _ (.tail _ (.tail _ (.tail _ (.head _)))))) | exact .tail _ (.tail _ (.tail _ (.tail _ (.tail _ (.tail _ (.tail _ (.head _))))))) | exact .tail _ (.tail _ (.tail _ (.tail _ (.tail _ (.tail _ (.tail _ (.tail _ (.head _)))))))) | exact .tail _ (.tail _ (.tail _ (.tail _ (.tail _ (.tail _ (.tail _ (.tail _ (.tail _ (.head _))))))))) | exact .tail _ (.tail _ (.tail _ (.tail _ (.tail _ (.tail _ (.tail _ (.tail _ (.tail _ (.tail _ (.head _)))))))))) | exact .tail _ (.tail _ (.tail _ (.tail _ (.tail _ (.tail _ (.tail _ (.tail _ (.tail _ (.tail _ (.tail _ (.head _))))))))))) | exact .tail _ (.tail _ (.tail _ (.tail _ (.tail _ (.tail _ (.tail _ (.tail _ (.tail _ (.tail _ (.tail _ (.tail _ (.head _)))))))))))) | exact .tail _ (.tail _ (.tail _ (.tail _ (.tail _ (.tail _ (.tail _ (.tail _ (.tail _ (.tail _ (.tail _ (.tail _ (.tail _ (.head _)))))))))))))))) (by simp) fun b14_3 c14_3 h14_3 => ?_)
  refine GL_y rfl rfl (Y_assign rfl) ?_
  refine GL_nil ?_
  (repeat (first | (with_reducible refine R_seq ?_) | (with_reducible refine R_block_normal ?_)))
  (repeat (with_reducible refine G_seq ?_))
  refine G_region ?_
  refine GL_y rfl rfl (Y_move rfl) ?_
  refine GL_y rfl rfl (Y_quoN (b := 256) rfl rfl (by decide) (by omega)) ?_
  refine GL_y rfl rfl (Y_assign rfl) ?_
  refine GL_nil ?_
  (repeat (first | (with_reducible refine R_seq ?_) | (with_reducible refine R_block_normal ?_)))
  (repeat (with_reducible refine G_seq ?_))
  refine G_region ?_
  refine GL_y rfl rfl (Y_move rfl) ?_
  refine GL_y rfl rfl (Y_iop (v := .int .i64 4) rfl rfl rfl) ?_
  refine GL_y rfl rfl (Y_assign rfl) ?_
  refine GL_nil ?_
  (repeat (first | (with_reducible refine R_seq ?_) | (with_reducible refine R_block_normal ?_)))
  (repeat (first | (with_reducible refine R_block_normal ?_) | (with_reducible refine R_round ?_)))
  -- round 4 of loop 0
  (repeat (with_reducible refine G_seq ?_))
  refine G_region ?_
  refine GL_y rfl rfl (Y_move rfl) ?_
  refine GL_y rfl rfl (Y_iop rfl rfl rfl) ?_
  refine GL_nil ?_
  (repeat (first | (with_reducible refine R_seq ?_) | (with_reducible refine R_block_normal ?_)))
  (repeat (with_reducible refine G_seq ?_))
  refine G_cond_f rfl (by first | rfl | decide) ?_
  (repeat (with_reducible refine G_seq ?_))
  refine G_exit ?_
  (repeat (first | (with_reducible refine R_then_exit ?_) | (with_reducible refine R_block_exit ?_) | (with_reducible refine R_block_other (by decide) ?_)))
  (repeat (first | (with_reducible refine R_seq ?_) | (with_reducible refine R_block_normal ?_)))
  (repeat (with_reducible refine G_seq ?_))
  refine G_region ?_
  refine GL_y rfl rfl (Y_move rfl) ?_
  refine GL_y rfl rfl (Y_assign rfl) ?_
  refine GL_nil ?_
  (repeat (first | (with_reducible refine R_seq ?_) | (with_reducible refine R_block_normal ?_)))
  (repeat (with_reducible refine G_seq ?_))
  refine G_ret ?_
  (repeat (first | (with_reducible refine R_then_ret ?_) | (with_reducible refine R_block_ret ?_)))
  refine R_ret (.tmp rfl .nil) [⟨b14_3, 5, c14_3 * 1, B ([UInt8.ofNat (n % 256)] ++ [UInt8.ofNat (n / 256 % 256)] ++ [UInt8.ofNat (n / 256 / 256 % 256)] ++ [UInt8.ofNat (n / 256 / 256 / 256 % 256)]), (0, 0)⟩] (by repeat (first | exact .nil | exact Pick.rfl' _ | exact Pick.skip (Pick.rfl' _) | exact Pick.skip (Pick.skip (Pick.rfl' _)) | (apply Pick.cons; focus (first | exact .head | exact (.tail .head) | exact (.tail (.tail .head)) | exact (.tail (.tail (.tail .head))) | exact (.tail (.tail (.tail (.tail .head)))) | exact (.tail (.tail (.tail (.tail (.tail .head))))) | exact (.tail (.tail (.tail (.tail (.tail (.tail .head)))))) | exact (.tail (.tail (.tail (.tail (.tail (.tail (.tail .head))))))) | exact (.tail (.tail (.tail (.tail (.tail (.tail (.tail (.tail .head)))))))) | exact (.tail (.tail (.tail (.tail (.tail (.tail (.tail (.tail (.tail .head))))))))) | exact (.tail (.tail (.tail (.tail (.tail (.tail (.tail (.tail (.tail (.tail .head)))))))))) | exact (.tail (.tail (.tail (.tail (.tail (.tail (.tail (.tail (.tail (.tail (.tail .head))))))))))) | exact (.tail (.tail (.tail (.tail (.tail (.tail (.tail (.tail (.tail (.tail (.tail (.tail .head)))))))))))) | exact (.tail (.tail (.tail (.tail (.tail (.tail (.tail (.tail (.tail (.tail (.tail (.tail (.tail .head))))))))))))))))) ⟨b14_3, c14_3, rfl, by rw [hle]⟩
theorem catchCheck_is {m : ManD} {ao : Option Addr} {c b : Nat} {w : World} (hb : CellsAt w b 0 (manL m ao c)) (hs : SlAt w ao (segsL m.segs)) (hlen : m.segs.length ≤ 1000) {r : Bool} (hm : mayM m = r) :
    FnAt Try.prog 16 [.func (.func 17) #[] #[.pointer (some ⟨b, 0, none⟩)]] [] w (Ret fun v N => v = .bool r ∧ N = []) := by
  refine (catch_is (g := 17) (cap := [.pointer (some ⟨b, 0, none⟩)]) (A := []) (Post := PN (mayM m)) Try.call17 (fun w' hw' => bytes1_is (hb.keep hw' (by simp)) (hs.keep hw' (by simp)) hlen) ?_).mono fun e N q => ?_
  · rintro e N ⟨_, ⟨_, h⟩ | ⟨_, h⟩⟩
    · exact .inl ⟨_, h⟩
    · exact .inr h
  · cases e with
    | returned v =>
      obtain ⟨e, ⟨h1, h2⟩, h3⟩ := q
      rcases h2 with ⟨ha, rfl⟩ | ⟨ha, rfl⟩
      · rcases h3 with ⟨_, rfl⟩ | ⟨h, _⟩
        · exact ⟨by rw [← hm, ha], h1⟩
        · cases h
      · rcases h3 with ⟨⟨_, h⟩, _⟩ | ⟨_, rfl⟩
        · cases h
        · exact ⟨by rw [← hm, ha], h1⟩
    | panicked c => exact q
    | outgrown => exact q
set_option maxHeartbeats 4000000 in
theorem bytes_bad {m : ManD} {ao : Option Addr} {c : Nat} {w : World} (hs : SlAt w ao (segsL m.segs)) (hlen : m.segs.length ≤ 1000) (hm : mayM m = false) :
    FnAt Try.prog 8 [.agg (manL m ao c).toArray] [] w (Ret fun v N => v = .tuple #[.slice none 0 0, .int .i64 1] ∧ N = []) := by
  refine FnAt.intro Try.func8 rfl Try.ntmps8 rfl _ rfl ?_
  (repeat (with_reducible refine G_seq ?_))
  refine G_region ?_
  refine GL_w rfl rfl (W_boxA rfl fun b1 => ?_)
  refine GL_y rfl rfl (Y_assign rfl) ?_
  refine GL_y rfl rfl (Y_assign rfl) ?_
  refine GL_nil ?_
  (repeat (first | (with_reducible refine R_seq ?_) | (with_reducible refine R_block_normal ?_)))
  (repeat (with_reducible refine G_seq ?_))
  refine G_region ?_
  refine GL_y rfl rfl (Y_makeFunc rfl rfl) ?_
  refine GL_call rfl rfl rfl rfl Try.call16 .nil (fun w hw => catchCheck_is (hw.cells (k := ⟨b1, 24, 5, manL m ao c, (0, 0)⟩) (by first | exact .head _ | exact .tail _ (.head _) | exact .tail _ (.tail _ (.head _)) | exact .tail _ (.tail _ (.tail _ (.head _))) | exact .tail _ (.tail _ (.tail _ (.tail _ (.head _)))) | exact .tail _ (.tail _ (.tail _ (.tail _ (.tail _ (.head _))))) | exact .tail _ (.tail _ (.tail _ (.tail _ (.tail _ (.tail _ (.head _)))))) | exact .tail _ (.tail _ (.tail _ (.tail _ (.tail _ (.tail _ (.tail _ (.head _))))))) | exact .tail _ (.tail _ (.tail _ (.tail _ (.tail _ (.tail _ (.tail _ (.tail _ (.head _)))))))) | exact .tail _ (.tail _ (.tail _ (.tail _ (.tail _ (.tail _ (.tail _ (.tail _ (.tail _ (.head _))))))))) | exact .tail _ (.tail _ (.tail _ (.tail _ (.tail _ (.tail _ (.tail _ (.tail _ (.tail _ (.tail _ (.head _)))))))))) | exact .tail _ (.tail _ (.tail _ (.tail _ (.tail _ (.tail _ (.tail _ (.tail _ (.tail _ (.tail _ (.tail _ (.head _))))))))))) | exact .tail _ (.tail _ (.tail _ (.tail _ (.tail _ (.tail _ (.tail _ (.tail _ (.tail _ (.tail _ (.tail _ (.tail _ (.head _)))))))))))) | exact .tail _ (.tail _ (.tail _ (.tail _ (.tail _ (.tail _ (.tail _ (.tail _ (.tail _ (.tail _ (.tail _ (.tail _ (.tail _ (.head _))))))))))))))) (hs.keep hw (by simp)) hlen hm) ?_
  rintro _ _ ⟨rfl, rfl⟩
  refine GL_y rfl rfl (Y_not rfl) ?_
  refine GL_nil ?_
  (repeat (first | (with_reducible refine R_seq ?_) | (with_reducible refine R_block_normal ?_)))
  (repeat (with_reducible refine G_seq ?_))
  refine G_cond_t rfl (by first | rfl | decide | (simp; done) | (simp; omega)) ?_
  (repeat (with_reducible refine G_seq ?_))
  refine G_region ?_
  refine GL_y rfl rfl (Y_assign rfl) ?_
  refine GL_y rfl rfl (Y_assign rfl) ?_
  refine GL_nil ?_
  (repeat (first | (with_reducible refine R_seq ?_) | (with_reducible refine R_block_normal ?_)))
  (repeat (with_reducible refine G_seq ?_))
  refine G_ret ?_
  (repeat (first | (with_reducible refine R_then_ret ?_) | (with_reducible refine R_block_ret ?_)))
  refine R_ret (.tmp rfl (.tmp rfl .nil)) [] .nil ⟨rfl, rfl⟩
structure BI where
  j : Nat
  b : Nat
  c : Nat
  bs : List UInt8
theorem lay2_len (x y : Nat) : ([x, y].flatMap le4).length = 8 := rfl
set_option maxHeartbeats 4000000 in
theorem bytes_ok {m : ManD} {ao : Option Addr} {c : Nat} {w : World} (hs : SlAt w ao (segsL m.segs)) (hlen : m.segs.length ≤ 1000) (hm : mayM m = true) :
    FnAt Try.prog 8 [.agg (manL m ao c).toArray] [] w (Ret fun v N => ∃ b c', (bytesM m).length ≤ c' ∧ v = .tuple #[.slice (some ⟨b, 0, none⟩) (bytesM m).length c', .int .i64 0] ∧ N = [⟨b, 5, c' * 1, B (bytesM m), (0, 0)⟩]) := by
  obtain ⟨_, _, _, _, h8, hsok⟩ := may_of hm
  rcases m with ⟨ver, sec, key, ent, segs⟩
  simp only at *
  obtain ⟨n1, rfl⟩ : ∃ n : Nat, ver = (n : Int) := ⟨ver.toNat, by omega⟩
  obtain ⟨n2, rfl⟩ : ∃ n : Nat, sec = (n : Int) := ⟨sec.toNat, by omega⟩
  obtain ⟨n3, rfl⟩ : ∃ n : Nat, key = (n : Int) := ⟨key.toNat, by omega⟩
  obtain ⟨n4, rfl⟩ : ∃ n : Nat, ent = (n : Int) := ⟨ent.toNat, by omega⟩
  refine FnAt.intro Try.func8 rfl Try.ntmps8 rfl _ rfl ?_
  (repeat (with_reducible refine G_seq ?_))
  refine G_region ?_
  refine GL_w rfl rfl (W_boxA rfl fun b1 => ?_)
  refine GL_y rfl rfl (Y_assign rfl) ?_
  refine GL_y rfl rfl (Y_assign rfl) ?_
  refine GL_nil ?_
  (repeat (first | (with_reducible refine R_seq ?_) | (with_reducible refine R_block_normal ?_)))
  (repeat (with_reducible refine G_seq ?_))
  refine G_region ?_
  refine GL_y rfl rfl (Y_makeFunc rfl rfl) ?_
  refine GL_call rfl rfl rfl rfl Try.call16 .nil (fun w hw => catchCheck_is (hw.cells (k := ⟨b1, 24, 5, manL ⟨(n1 : Int), (n2 : Int), (n3 : Int), (n4 : Int), segs⟩ ao c, (0, 0)⟩) (by first | exact .head _ | exact .tail _ (.head _) | exact .tail _ (.tail _ (.head _)) | exact .tail _ (.tail _ (.tail _ (.head _))) | exact .tail _ (.tail _ (.tail _ (.tail _ (.head _)))) | exact .tail _ (.tail _ (.tail _ (.tail _ (.tail _ (.head _))))) | exact .tail _ (.tail _ (.tail _ (.tail _ (.tail _ (.tail _ (.head _)))))) | exact .tail _ (.tail _ (.tail _ (.tail _ (.tail _ (.tail _ (.tail _ (.head _))))))) | exact .tail _ (.tail _ (.tail _ (.tail _ (.tail _ (.tail _ (.tail _ (.tail _ (.head _)))))))) | exact .tail _ (.tail _ (.tail _ (.tail _ (.tail _ (.tail _ (.tail _ (.tail _ (.tail _ (.head _))))))))) | exact .tail _ (.tail _ (.tail _ (.tail _ (.tail _ (.tail _ (.tail _ (.tail _ (.tail _ (.tail _ (.head _)))))))))) | exact .tail _ (.tail _ (.tail _ (.tail _ (.tail _ (.tail _ (.tail _ (.tail _ (.tail _ (.tail _ (.tail _ (.head _))))))))))) | exact .tail _ (.tail _ (.tail _ (.tail _ (.tail _ (.tail _ (.tail _ (.tail _ (.tail _ (.tail _ (.tail _ (.tail _ (.head _)))))))))))) | exact .tail _ (.tail _ (.tail _ (.tail _ (.tail _ (.tail _ (.tail _ (.tail _ (.tail _ (.tail _ (.tail _ (.tail _ (.tail _ (.head _))))))))))))))) (hs.keep hw (by simp)) hlen hm) ?_
  rintro _ _ ⟨rfl, rfl⟩
  refine GL_y rfl rfl (Y_not rfl) ?_
  refine GL_nil ?_
  (repeat (first | (with_reducible refine R_seq ?_) | (with_reducible refine R_block_normal ?_)))
  (repeat (with_reducible refine G_seq ?_))
  refine G_cond_f rfl (by first | rfl | decide | (simp; done) | (simp; omega)) ?_
  (repeat (with_reducible refine G_seq ?_))
  refine G_skip ?_
  (repeat (first | (with_reducible refine R_seq ?_) | (with_reducible refine R_block_normal ?_)))
  (repeat (with_reducible refine G_seq ?_))
  refine G_region ?_
  refine GL_w rfl rfl (W_bs (B [109, 97, 110, 105]) Try.underlying25 el5 (all_B _) (by simp [B]) (by simp [B]) rfl rfl fun b10 => ?_)
  refine GL_w rfl rfl (W_mark Try.underlying25 Try.underlying5 rfl (by first | exact .head | exact (.tail .head) | exact (.tail (.tail .head)) | exact (.tail (.tail (.tail .head))) | exact (.tail (.tail (.tail (.tail .head)))) | exact (.tail (.tail (.tail (.tail (.tail .head))))) | exact (.tail (.tail (.tail (.tail (.tail (.tail .head)))))) | exact (.tail (.tail (.tail (.tail (.tail (.tail (.tail .head))))))) | exact (.tail (.tail (.tail (.tail (.tail (.tail (.tail (.tail .head)))))))) | exact (.tail (.tail (.tail (.tail (.tail (.tail (.tail (.tail (.tail .head))))))))) | exact (.tail (.tail (.tail (.tail (.tail (.tail (.tail (.tail (.tail (.tail .head)))))))))) | exact (.tail (.tail (.tail (.tail (.tail (.tail (.tail (.tail (.tail (.tail (.tail .head))))))))))) | exact (.tail (.tail (.tail (.tail (.tail (.tail (.tail (.tail (.tail (.tail (.tail (.tail .head)))))))))))) | exact (.tail (.tail (.tail (.tail (.tail (.tail (.tail (.tail (.tail (.tail (.tail (.tail (.tail .head)))))))))))))) ?_)
  refine GL_y rfl rfl (Y_field fd24_0 rfl) ?_
  refine GL_y rfl rfl (Y_loadS rfl sc3 (by first | exact .head _ | exact .tail _ (.head _) | exact .tail _ (.tail _ (.head _)) | exact .tail _ (.tail _ (.tail _ (.head _))) | exact .tail _ (.tail _ (.tail _ (.tail _ (.head _)))) | exact .tail _ (.tail _ (.tail _ (.tail _ (.tail _ (.head _))))) | exact .tail _ (.tail _ (.tail _ (.tail _ (.tail _ (.tail _ (.head _)))))) | exact .tail _ (.tail _ (.tail _ (.tail _ (.tail _ (.tail _ (.tail _ (.head _))))))) | exact .tail _ (.tail _ (.tail _ (.tail _ (.tail _ (.tail _ (.tail _ (.tail _ (.head _)))))))) | exact .tail _ (.tail _ (.tail _ (.tail _ (.tail _ (.tail _ (.tail _ (.tail _ (.tail _ (.head _))))))))) | exact .tail _ (.tail _ (.tail _ (.tail _ (.tail _ (.tail _ (.tail _ (.tail _ (.tail _ (.tail _ (.head _)))))))))) | exact .tail _ (.tail _ (.tail _ (.tail _ (.tail _ (.tail _ (.tail _ (.tail _ (.tail _ (.tail _ (.tail _ (.head _))))))))))) | exact .tail _ (.tail _ (.tail _ (.tail _ (.tail _ (.tail _ (.tail _ (.tail _ (.tail _ (.tail _ (.tail _ (.tail _ (.head _)))))))))))) | exact .tail _ (.tail _ (.tail _ (.tail _ (.tail _ (.tail _ (.tail _ (.tail _ (.tail _ (.tail _ (.tail _ (.tail _ (.tail _ (.head _)))))))))))))) (by rfl)) ?_
  refine GL_y rfl rfl (Y_field fd24_1 rfl) ?_
  refine GL_y rfl rfl (Y_loadS rfl sc3 (by first | exact .head _ | exact .tail _ (.head _) | exact .tail _ (.tail _ (.head _)) | exact .tail _ (.tail _ (.tail _ (.head _))) | exact .tail _ (.tail _ (.tail _ (.tail _ (.head _)))) | exact .tail _ (.tail _ (.tail _ (.tail _ (.tail _ (.head _))))) | exact .tail _ (.tail _ (.tail _ (.tail _ (.tail _ (.tail _ (.head _)))))) | exact .tail _ (.tail _ (.tail _ (.tail _ (.tail _ (.tail _ (.tail _ (.head _))))))) | exact .tail _ (.tail _ (.tail _ (.tail _ (.tail _ (.tail _ (.tail _ (.tail _ (.head _)))))))) | exact .tail _ (.tail _ (.tail _ (.tail _ (.tail _ (.tail _ (.tail _ (.tail _ (.tail _ (.head _))))))))) | exact .tail _ (.tail _ (.tail _ (.tail _ (.tail _ (.tail _ (.tail _ (.tail _ (.tail _ (.tail _ (.head _)))))))))) | exact .tail _ (.tail _ (.tail _ (.tail _ (.tail _ (.tail _ (.tail _ (.tail _ (.tail _ (.tail _ (.tail _ (.head _))))))))))) | exact .tail _ (.tail _ (.tail _ (.tail _ (.tail _ (.tail _ (.tail _ (.tail _ (.tail _ (.tail _ (.tail _ (.tail _ (.head _)))))))))))) | exact .tail _ (.tail _ (.tail _ (.tail _ (.tail _ (.tail _ (.tail _ (.tail _ (.tail _ (.tail _ (.tail _ (.tail _ (.tail _ (.head _)))))))))))))) (by rfl)) ?_
  refine GL_y rfl rfl (Y_field fd24_2 rfl) ?_
  refine GL_y rfl rfl (Y_loadS rfl sc3 (by first | exact .head _ | exact .tail _ (.head _) | exact .tail _ (.tail _ (.head _)) | exact .tail _ (.tail _ (.tail _ (.head _))) | exact .tail _ (.tail _ (.tail _ (.tail _ (.head _)))) | exact .tail _ (.tail _ (.tail _ (.tail _ (.tail _ (.head _))))) | exact .tail _ (.tail _ (.tail _ (.tail _ (.tail _ (.tail _ (.head _)))))) | exact .tail _ (.tail _ (.tail _ (.tail _ (.tail _ (.tail _ (.tail _ (.head _))))))) | exact .tail _ (.tail _ (.tail _ (.tail _ (.tail _ (.tail _ (.tail _ (.tail _ (.head _)))))))) | exact .tail _ (.tail _ (.tail _ (.tail _ (.tail _ (.tail _ (.tail _ (.tail _ (.tail _ (.head _))))))))) | exact .tail _ (.tail _ (.tail _ (.tail _ (.tail _ (.tail _ (.tail _ (.tail _ (.tail _ (.tail _ (.head _)))))))))) | exact .tail _ (.tail _ (.tail _ (.tail _ (.tail _ (.tail _ (.tail _ (.tail _ (.tail _ (.tail _ (.tail _ (.head _))))))))))) | exact .tail _ (.tail _ (.tail _ (.tail _ (.tail _ (.tail _ (.tail _ (.tail _ (.tail _ (.tail _ (.tail _ (.tail _ (.head _)))))))))))) | exact .tail _ (.tail _ (.tail _ (.tail _ (.tail _ (.tail _ (.tail _ (.tail _ (.tail _ (.tail _ (.tail _ (.tail _ (.tail _ (.head _)))))))))))))) (by rfl)) ?_
  refine GL_y rfl rfl (Y_field fd24_3 rfl) ?_
  refine GL_y rfl rfl (Y_loadS rfl sc3 (by first | exact .head _ | exact .tail _ (.head _) | exact .tail _ (.tail _ (.head _)) | exact .tail _ (.tail _ (.tail _ (.head _))) | exact .tail _ (.tail _ (.tail _ (.tail _ (.head _)))) | exact .tail _ (.tail _ (.tail _ (.tail _ (.tail _ (.head _))))) | exact .tail _ (.tail _ (.tail _ (.tail _ (.tail _ (.tail _ (.head _)))))) | exact .tail _ (.tail _ (.tail _ (.tail _ (.tail _ (.tail _ (.tail _ (.head _))))))) | exact .tail _ (.tail _ (.tail _ (.tail _ (.tail _ (.tail _ (.tail _ (.tail _ (.head _)))))))) | exact .tail _ (.tail _ (.tail _ (.tail _ (.tail _ (.tail _ (.tail _ (.tail _ (.tail _ (.head _))))))))) | exact .tail _ (.tail _ (.tail _ (.tail _ (.tail _ (.tail _ (.tail _ (.tail _ (.tail _ (.tail _ (.head _)))))))))) | exact .tail _ (.tail _ (.tail _ (.tail _ (.tail _ (.tail _ (.tail _ (.tail _ (.tail _ (.tail _ (.tail _ (.head _))))))))))) | exact .tail _ (.tail _ (.tail _ (.tail _ (.tail _ (.tail _ (.tail _ (.tail _ (.tail _ (.tail _ (.tail _ (.tail _ (.head _)))))))))))) | exact .tail _ (.tail _ (.tail _ (.tail _ (.tail _ (.tail _ (.tail _ (.tail _ (.tail _ (.tail _ (.tail _ (.tail _ (.tail _ (.head _)))))))))))))) (by rfl)) ?_
  refine GL_y rfl rfl (Y_field fd24_4 rfl) ?_
  refine GL_y rfl rfl (Y_loadS rfl sc22 (by first | exact .head _ | exact .tail _ (.head _) | exact .tail _ (.tail _ (.head _)) | exact .tail _ (.tail _ (.tail _ (.head _))) | exact .tail _ (.tail _ (.tail _ (.tail _ (.head _)))) | exact .tail _ (.tail _ (.tail _ (.tail _ (.tail _ (.head _))))) | exact .tail _ (.tail _ (.tail _ (.tail _ (.tail _ (.tail _ (.head _)))))) | exact .tail _ (.tail _ (.tail _ (.tail _ (.tail _ (.tail _ (.tail _ (.head _))))))) | exact .tail _ (.tail _ (.tail _ (.tail _ (.tail _ (.tail _ (.tail _ (.tail _ (.head _)))))))) | exact .tail _ (.tail _ (.tail _ (.tail _ (.tail _ (.tail _ (.tail _ (.tail _ (.tail _ (.head _))))))))) | exact .tail _ (.tail _ (.tail _ (.tail _ (.tail _ (.tail _ (.tail _ (.tail _ (.tail _ (.tail _ (.head _)))))))))) | exact .tail _ (.tail _ (.tail _ (.tail _ (.tail _ (.tail _ (.tail _ (.tail _ (.tail _ (.tail _ (.tail _ (.head _))))))))))) | exact .tail _ (.tail _ (.tail _ (.tail _ (.tail _ (.tail _ (.tail _ (.tail _ (.tail _ (.tail _ (.tail _ (.tail _ (.head _)))))))))))) | exact .tail _ (.tail _ (.tail _ (.tail _ (.tail _ (.tail _ (.tail _ (.tail _ (.tail _ (.tail _ (.tail _ (.tail _ (.tail _ (.head _)))))))))))))) (by rfl)) ?_
  refine GL_y rfl rfl (Y_len sl22 rfl) ?_
  refine GL_w rfl rfl (W_bs [.int .i64 (n1 : Int), .int .i64 (n2 : Int), .int .i64 (n3 : Int), .int .i64 (n4 : Int), .int .i64 (segs.length : Int)] Try.underlying49 el3 (by rfl) (by simp) (by simp) rfl rfl fun b23 => ?_)
  refine GL_call rfl rfl rfl rfl Try.call19 (by repeat (first | exact .nil | exact Pick.rfl' _ | exact Pick.skip (Pick.rfl' _) | exact Pick.skip (Pick.skip (Pick.rfl' _)) | (apply Pick.cons; focus (first | exact .head | exact (.tail .head) | exact (.tail (.tail .head)) | exact (.tail (.tail (.tail .head))) | exact (.tail (.tail (.tail (.tail .head)))) | exact (.tail (.tail (.tail (.tail (.tail .head))))) | exact (.tail (.tail (.tail (.tail (.tail (.tail .head)))))) | exact (.tail (.tail (.tail (.tail (.tail (.tail (.tail .head))))))) | exact (.tail (.tail (.tail (.tail (.tail (.tail (.tail (.tail .head)))))))) | exact (.tail (.tail (.tail (.tail (.tail (.tail (.tail (.tail (.tail .head))))))))) | exact (.tail (.tail (.tail (.tail (.tail (.tail (.tail (.tail (.tail (.tail .head)))))))))) | exact (.tail (.tail (.tail (.tail (.tail (.tail (.tail (.tail (.tail (.tail (.tail .head))))))))))) | exact (.tail (.tail (.tail (.tail (.tail (.tail (.tail (.tail (.tail (.tail (.tail (.tail .head)))))))))))) | exact (.tail (.tail (.tail (.tail (.tail (.tail (.tail (.tail (.tail (.tail (.tail (.tail (.tail .head))))))))))))))))) (fun w hw => lay_is (bs := [109, 97, 110, 105]) (zs := [n1, n2, n3, n4, segs.length]) (SlAt.mk' (hw.cells (k := ⟨b23, 3, 5 * 1, [.int .i64 (n1 : Int), .int .i64 (n2 : Int), .int .i64 (n3 : Int), .int .i64 (n4 : Int), .int .i64 (segs.length : Int)], (0, 0)⟩) (by first | exact .head _ | exact .tail _ (.head _) | exact .tail _ (.tail _ (.head _)) | exact .tail _ (.tail _ (.tail _ (.head _))) | exact .tail _ (.tail _ (.tail _ (.tail _ (.head _)))) | exact .tail _ (.tail _ (.tail _ (.tail _ (.tail _ (.head _))))) | exact .tail _ (.tail _ (.tail _ (.tail _ (.tail _ (.tail _ (.head _)))))) | exact .tail _ (.tail _ (.tail _ (.tail _ (.tail _ (.tail _ (.tail _ (.head _))))))) | exact .tail _ (.tail _ (.tail _ (.tail _ (.tail _ (.tail _ (.tail _ (.tail _ (.head _)))))))) | exact .tail _ (.tail _ (.tail _ (.tail _ (.tail _ (.tail _ (.tail _ (.tail _ (.tail _ (.head _))))))))) | exact .tail _ (.tail _ (.tail _ (.tail _ (.tail _ (.tail _ (.tail _ (.tail _ (.tail _ (.tail _ (.head _)))))))))) | exact .tail _ (.tail _ (.tail _ (.tail _ (.tail _ (.tail _ (.tail _ (.tail _ (.tail _ (.tail _ (.tail _ (.head _))))))))))) | exact .tail _ (.tail _ (.tail _ (.tail _ (.tail _ (.tail _ (.tail _ (.tail _ (.tail _ (.tail _ (.tail _ (.tail _ (.head _)))))))))))) | exact .tail _ (.tail _ (.tail _ (.tail _ (.tail _ (.tail _ (.tail _ (.tail _ (.tail _ (.tail _ (.tail _ (.tail _ (.tail _ (.head _)))))))))))))))) (by exact hw.ne2 (k1 := ⟨b23, _, _, _, _⟩) (k2 := ⟨b10, _, _, _, _⟩) (by repeat (first | exact .nil | exact Pick.rfl' _ | exact Pick.skip (Pick.rfl' _) | exact Pick.skip (Pick.skip (Pick.rfl' _)) | (apply Pick.cons; focus (first | exact .head | exact (.tail .head) | exact (.tail (.tail .head)) | exact (.tail (.tail (.tail .head))) | exact (.tail (.tail (.tail (.tail .head)))) | exact (.tail (.tail (.tail (.tail (.tail .head))))) | exact (.tail (.tail (.tail (.tail (.tail (.tail .head)))))) | exact (.tail (.tail (.tail (.tail (.tail (.tail (.tail .head))))))) | exact (.tail (.tail (.tail (.tail (.tail (.tail (.tail (.tail .head)))))))) | exact (.tail (.tail (.tail (.tail (.tail (.tail (.tail (.tail (.tail .head))))))))) | exact (.tail (.tail (.tail (.tail (.tail (.tail (.tail (.tail (.tail (.tail .head)))))))))) | exact (.tail (.tail (.tail (.tail (.tail (.tail (.tail (.tail (.tail (.tail (.tail .head))))))))))) | exact (.tail (.tail (.tail (.tail (.tail (.tail (.tail (.tail (.tail (.tail (.tail (.tail .head)))))))))))) | exact (.tail (.tail (.tail (.tail (.tail (.tail (.tail (.tail (.tail (.tail (.tail (.tail (.tail .head)))))))))))))))))) (by simp) (by simp) (.inr rfl) (by decide) rfl rfl) ?_
  rintro _ _ ⟨b24, c24, h24, rfl, rfl⟩
  refine GL_y rfl rfl (Y_assign rfl) ?_
  refine GL_nil ?_
  (repeat (first | (with_reducible refine R_seq ?_) | (with_reducible refine R_block_normal ?_)))
  (repeat (with_reducible refine G_seq ?_))
  refine G_region ?_
  refine GL_y rfl rfl (Y_field fd24_4 rfl) ?_
  refine GL_y rfl rfl (Y_loadS rfl sc22 (by first | exact .head _ | exact .tail _ (.head _) | exact .tail _ (.tail _ (.head _)) | exact .tail _ (.tail _ (.tail _ (.head _))) | exact .tail _ (.tail _ (.tail _ (.tail _ (.head _)))) | exact .tail _ (.tail _ (.tail _ (.tail _ (.tail _ (.head _))))) | exact .tail _ (.tail _ (.tail _ (.tail _ (.tail _ (.tail _ (.head _)))))) | exact .tail _ (.tail _ (.tail _ (.tail _ (.tail _ (.tail _ (.tail _ (.head _))))))) | exact .tail _ (.tail _ (.tail _ (.tail _ (.tail _ (.tail _ (.tail _ (.tail _ (.head _)))))))) | exact .tail _ (.tail _ (.tail _ (.tail _ (.tail _ (.tail _ (.tail _ (.tail _ (.tail _ (.head _))))))))) | exact .tail _ (.tail _ (.tail _ (.tail _ (.tail _ (.tail _ (.tail _ (.tail _ (.tail _ (.tail _ (.head _)))))))))) | exact .tail _ (.tail _ (.tail _ (.tail _ (.tail _ (.tail _ (.tail _ (.tail _ (.tail _ (.tail _ (.tail _ (.head _))))))))))) | exact .tail _ (.tail _ (.tail _ (.tail _ (.tail _ (.tail _ (.tail _ (.tail _ (.tail _ (.tail _ (.tail _ (.tail _ (.head _)))))))))))) | exact .tail _ (.tail _ (.tail _ (.tail _ (.tail _ (.tail _ (.tail _ (.tail _ (.tail _ (.tail _ (.tail _ (.tail _ (.tail _ (.head _)))))))))))))) (by rfl)) ?_
  refine GL_y rfl rfl (Y_len sl22 rfl) ?_
  refine GL_y rfl rfl (Y_move rfl) ?_
  refine GL_nil ?_
  (repeat (first | (with_reducible refine R_seq ?_) | (with_reducible refine R_block_normal ?_)))
  (repeat (with_reducible refine G_seq ?_))
  refine G_block ?_
  (repeat (with_reducible refine G_seq ?_))
  refine G_loop (ι := BI) (fun i => segs.length - i.j) (fun i => i.j ≤ segs.length ∧ i.bs = [109, 97, 110, 105] ++ [n1, n2, n3, n4, segs.length].flatMap le4 ++ (segs.take i.j).flatMap segBytes ∧ i.bs.length ≤ i.c) (fun i => [(4, .slice (some ⟨i.b, 0, none⟩) i.bs.length i.c), (26, .slice ao segs.length c), (27, .int .i64 (segs.length : Int)), (28, .int .i64 (i.j : Int))]) (fun i => [⟨i.b, 5, i.c * 1, B i.bs, (0, 0)⟩]) ⟨0, b24, c24, [109, 97, 110, 105] ++ [n1, n2, n3, n4, segs.length].flatMap le4⟩ ?_ (⟨by first | rfl | decide, by first | rfl | decide, by first | rfl | decide, by first | rfl | decide, trivial⟩) (by repeat (first | exact .nil | exact Pick.rfl' _ | exact Pick.skip (Pick.rfl' _) | exact Pick.skip (Pick.skip (Pick.rfl' _)) | (apply Pick.cons; focus (first | exact .head | exact (.tail .head) | exact (.tail (.tail .head)) | exact (.tail (.tail (.tail .head))) | exact (.tail (.tail (.tail (.tail .head)))) | exact (.tail (.tail (.tail (.tail (.tail .head))))) | exact (.tail (.tail (.tail (.tail (.tail (.tail .head)))))) | exact (.tail (.tail (.tail (.tail (.tail (.tail (.tail .head))))))) | exact (.tail (.tail (.tail (.tail (.tail (.tail (.tail (.tail .head)))))))) | exact (.tail (.tail (.tail (.tail (.tail (.tail (.tail (.tail (.tail .head))))))))) | exact (.tail (.tail (.tail (.tail (.tail (.tail (.tail (.tail (.tail (.tail .head)))))))))) | exact (.tail (.tail (.tail (.tail (.tail (.tail (.tail (.tail (.tail (.tail (.tail .head))))))))))) | exact (.tail (.tail (.tail (.tail (.tail (.tail (.tail (.tail (.tail (.tail (.tail (.tail .head)))))))))))) | exact (.tail (.tail (.tail (.tail (.tail (.tail (.tail (.tail (.tail (.tail (.tail (.tail (.tail .head))))))))))))))))) ?_
  · exact ⟨by simp, by simp, h24⟩
  intro i ⟨hi, hbs, hc⟩
  (repeat (with_reducible refine G_seq ?_))
  refine G_region ?_
  refine GL_y rfl rfl (Y_lssN rfl rfl) ?_
  refine GL_nil ?_
  (repeat (first | (with_reducible refine R_seq ?_) | (with_reducible refine R_block_normal ?_)))
  (repeat (with_reducible refine G_seq ?_))
  refine G_cond_dec rfl (fun ht29 => ?_) (fun ht29 => ?_)
  · -- yes
    (repeat (with_reducible refine G_seq ?_))
    refine G_skip ?_
    (repeat (first | (with_reducible refine R_seq ?_) | (with_reducible refine R_block_normal ?_)))
    (repeat (with_reducible refine G_seq ?_))
    refine G_block ?_
    obtain ⟨k, hk⟩ : ∃ y, segs[i.j]? = some y := ⟨segs[i.j], List.getElem?_eq_getElem ht29⟩
    have hok := segOk_at hsok hk
    have hbl := flat_len' hi hbs
    obtain ⟨ld, byt, dig, hdl⟩ := k
    simp only at hok
    obtain ⟨ld, rfl⟩ : ∃ n : Nat, ld = (n : Int) := ⟨ld.toNat, by omega⟩
    obtain ⟨by1, rfl⟩ : ∃ n : Nat, byt = (n : Int) := ⟨byt.toNat, by omega⟩
    have hst := flat_step hk hbs
    simp only [Int.toNat_natCast] at hst
    have hpl : ([109, 97, 110, 105] ++ [n1, n2, n3, n4, segs.length].flatMap le4).length = 24 := rfl
    rw [hpl] at hbl
    (repeat (with_reducible refine G_seq ?_))
    refine G_region ?_
    refine GL_y rfl rfl (Y_recAt segL_len (by decide) sl22 hs rfl rfl hk rfl) ?_
    refine GL_y rfl rfl (Y_recAll segL_len ag47 hs (by simp) rfl hk) ?_
    refine GL_w rfl rfl (W_alloc zr47 fun b6 => ?_)
    refine GL_s rfl (S_all rfl rfl ag47 (segL_len _) (segL_all _) (by first | exact .head | exact (.tail .head) | exact (.tail (.tail .head)) | exact (.tail (.tail (.tail .head))) | exact (.tail (.tail (.tail (.tail .head)))) | exact (.tail (.tail (.tail (.tail (.tail .head))))) | exact (.tail (.tail (.tail (.tail (.tail (.tail .head)))))) | exact (.tail (.tail (.tail (.tail (.tail (.tail (.tail .head))))))) | exact (.tail (.tail (.tail (.tail (.tail (.tail (.tail (.tail .head)))))))) | exact (.tail (.tail (.tail (.tail (.tail (.tail (.tail (.tail (.tail .head))))))))) | exact (.tail (.tail (.tail (.tail (.tail (.tail (.tail (.tail (.tail (.tail .head)))))))))) | exact (.tail (.tail (.tail (.tail (.tail (.tail (.tail (.tail (.tail (.tail (.tail .head))))))))))) | exact (.tail (.tail (.tail (.tail (.tail (.tail (.tail (.tail (.tail (.tail (.tail (.tail .head)))))))))))) | exact (.tail (.tail (.tail (.tail (.tail (.tail (.tail (.tail (.tail (.tail (.tail (.tail (.tail .head)))))))))))))) (by rfl)) ?_
    refine GL_nil ?_
    (repeat (first | (with_reducible refine R_seq ?_) | (with_reducible refine R_block_normal ?_)))
    (repeat (with_reducible refine G_seq ?_))
    refine G_drawB ([⟨b6, 47, ([Value.int .i64 0, .int .i64 0] ++ List.replicate 32 (bv 0)).length, segL ⟨(ld : Int), (by1 : Int), dig, hdl⟩, (0, 0)⟩]) 11 rfl (by kernel_rfl) ⟨_, by repeat (first | exact .nil | exact Pick.rfl' _ | exact Pick.skip (Pick.rfl' _) | exact Pick.skip (Pick.skip (Pick.rfl' _)) | (apply Pick.cons; focus (first | exact .head | exact (.tail .head) | exact (.tail (.tail .head)) | exact (.tail (.tail (.tail .head))) | exact (.tail (.tail (.tail (.tail .head)))) | exact (.tail (.tail (.tail (.tail (.tail .head))))) | exact (.tail (.tail (.tail (.tail (.tail (.tail .head)))))) | exact (.tail (.tail (.tail (.tail (.tail (.tail (.tail .head))))))) | exact (.tail (.tail (.tail (.tail (.tail (.tail (.tail (.tail .head)))))))) | exact (.tail (.tail (.tail (.tail (.tail (.tail (.tail (.tail (.tail .head))))))))) | exact (.tail (.tail (.tail (.tail (.tail (.tail (.tail (.tail (.tail (.tail .head)))))))))) | exact (.tail (.tail (.tail (.tail (.tail (.tail (.tail (.tail (.tail (.tail (.tail .head))))))))))) | exact (.tail (.tail (.tail (.tail (.tail (.tail (.tail (.tail (.tail (.tail (.tail (.tail .head)))))))))))) | exact (.tail (.tail (.tail (.tail (.tail (.tail (.tail (.tail (.tail (.tail (.tail (.tail (.tail .head))))))))))))))))⟩ ?_
    refine GB_y 0 rfl (by kernel_rfl) (by kernel_rfl) (by kernel_rfl) (fun _ _ _ h => h) rfl rfl (Y_move rfl) ?_
    refine GB_y 1 rfl (by kernel_rfl) (by kernel_rfl) (by kernel_rfl) (fun _ _ _ h => h) rfl rfl (Y_field fd47_0 rfl) ?_
    refine GB_l 2 rfl (by kernel_rfl) (by kernel_rfl) (by kernel_rfl) (fun _ _ _ h => h) rfl rfl (Y_loadS rfl sc3 (by first | exact .head _ | exact .tail _ (.head _) | exact .tail _ (.tail _ (.head _)) | exact .tail _ (.tail _ (.tail _ (.head _))) | exact .tail _ (.tail _ (.tail _ (.tail _ (.head _)))) | exact .tail _ (.tail _ (.tail _ (.tail _ (.tail _ (.head _))))) | exact .tail _ (.tail _ (.tail _ (.tail _ (.tail _ (.tail _ (.head _)))))) | exact .tail _ (.tail _ (.tail _ (.tail _ (.tail _ (.tail _ (.tail _ (.head _))))))) | exact .tail _ (.tail _ (.tail _ (.tail _ (.tail _ (.tail _ (.tail _ (.tail _ (.head _)))))))) | exact .tail _ (.tail _ (.tail _ (.tail _ (.tail _ (.tail _ (.tail _ (.tail _ (.tail _ (.head _))))))))) | exact .tail _ (.tail _ (.tail _ (.tail _ (.tail _ (.tail _ (.tail _ (.tail _ (.tail _ (.tail _ (.head _)))))))))) | exact .tail _ (.tail _ (.tail _ (.tail _ (.tail _ (.tail _ (.tail _ (.tail _ (.tail _ (.tail _ (.tail _ (.head _))))))))))) | exact .tail _ (.tail _ (.tail _ (.tail _ (.tail _ (.tail _ (.tail _ (.tail _ (.tail _ (.tail _ (.tail _ (.tail _ (.head _)))))))))))) | exact .tail _ (.tail _ (.tail _ (.tail _ (.tail _ (.tail _ (.tail _ (.tail _ (.tail _ (.tail _ (.tail _ (.tail _ (.tail _ (.head _)))))))))))))) (by rfl)) ?_
    refine GB_y 3 rfl (by kernel_rfl) (by kernel_rfl) (by kernel_rfl) (fun _ _ _ h => h) rfl rfl (Y_field fd47_1 rfl) ?_
    refine GB_l 4 rfl (by kernel_rfl) (by kernel_rfl) (by kernel_rfl) (fun _ _ _ h => h) rfl rfl (Y_loadS rfl sc3 (by first | exact .head _ | exact .tail _ (.head _) | exact .tail _ (.tail _ (.head _)) | exact .tail _ (.tail _ (.tail _ (.head _))) | exact .tail _ (.tail _ (.tail _ (.tail _ (.head _)))) | exact .tail _ (.tail _ (.tail _ (.tail _ (.tail _ (.head _))))) | exact .tail _ (.tail _ (.tail _ (.tail _ (.tail _ (.tail _ (.head _)))))) | exact .tail _ (.tail _ (.tail _ (.tail _ (.tail _ (.tail _ (.tail _ (.head _))))))) | exact .tail _ (.tail _ (.tail _ (.tail _ (.tail _ (.tail _ (.tail _ (.tail _ (.head _)))))))) | exact .tail _ (.tail _ (.tail _ (.tail _ (.tail _ (.tail _ (.tail _ (.tail _ (.tail _ (.head _))))))))) | exact .tail _ (.tail _ (.tail _ (.tail _ (.tail _ (.tail _ (.tail _ (.tail _ (.tail _ (.tail _ (.head _)))))))))) | exact .tail _ (.tail _ (.tail _ (.tail _ (.tail _ (.tail _ (.tail _ (.tail _ (.tail _ (.tail _ (.tail _ (.head _))))))))))) | exact .tail _ (.tail _ (.tail _ (.tail _ (.tail _ (.tail _ (.tail _ (.tail _ (.tail _ (.tail _ (.tail _ (.tail _ (.head _)))))))))))) | exact .tail _ (.tail _ (.tail _ (.tail _ (.tail _ (.tail _ (.tail _ (.tail _ (.tail _ (.tail _ (.tail _ (.tail _ (.tail _ (.head _)))))))))))))) (by rfl)) ?_
    refine GB_y 7 rfl (by kernel_rfl) (by kernel_rfl) (by kernel_rfl) (fun _ _ _ h => h) rfl rfl (Y_field fd47_2 rfl) ?_
    refine GB_y 8 rfl (by kernel_rfl) (by kernel_rfl) (by kernel_rfl) (fun _ _ _ h => h) rfl rfl (Y_slA ar45 rfl) ?_
    refine GB_one 5 (by kernel_rfl) ?_
    refine HO_w rfl rfl rfl (W_bs [.int .i64 (ld : Int), .int .i64 (by1 : Int)] Try.underlying49 el3 (by rfl) (by simp) (by simp) rfl rfl fun b37 => ⟨⟨_, by repeat (first | exact .nil | exact Pick.rfl' _ | exact Pick.skip (Pick.rfl' _) | exact Pick.skip (Pick.skip (Pick.rfl' _)) | (apply Pick.cons; focus (first | exact .head | exact (.tail .head) | exact (.tail (.tail .head)) | exact (.tail (.tail (.tail .head))) | exact (.tail (.tail (.tail (.tail .head)))) | exact (.tail (.tail (.tail (.tail (.tail .head))))) | exact (.tail (.tail (.tail (.tail (.tail (.tail .head)))))) | exact (.tail (.tail (.tail (.tail (.tail (.tail (.tail .head))))))) | exact (.tail (.tail (.tail (.tail (.tail (.tail (.tail (.tail .head)))))))) | exact (.tail (.tail (.tail (.tail (.tail (.tail (.tail (.tail (.tail .head))))))))) | exact (.tail (.tail (.tail (.tail (.tail (.tail (.tail (.tail (.tail (.tail .head)))))))))) | exact (.tail (.tail (.tail (.tail (.tail (.tail (.tail (.tail (.tail (.tail (.tail .head))))))))))) | exact (.tail (.tail (.tail (.tail (.tail (.tail (.tail (.tail (.tail (.tail (.tail (.tail .head)))))))))))) | exact (.tail (.tail (.tail (.tail (.tail (.tail (.tail (.tail (.tail (.tail (.tail (.tail (.tail .head))))))))))))))))⟩, ?_⟩)
    refine GB_one 6 (by kernel_rfl) ?_
    refine HO_call rfl rfl rfl rfl rfl Try.call19 (by repeat (first | exact .nil | exact Pick.rfl' _ | exact Pick.skip (Pick.rfl' _) | exact Pick.skip (Pick.skip (Pick.rfl' _)) | (apply Pick.cons; focus (first | exact .head | exact (.tail .head) | exact (.tail (.tail .head)) | exact (.tail (.tail (.tail .head))) | exact (.tail (.tail (.tail (.tail .head)))) | exact (.tail (.tail (.tail (.tail (.tail .head))))) | exact (.tail (.tail (.tail (.tail (.tail (.tail .head)))))) | exact (.tail (.tail (.tail (.tail (.tail (.tail (.tail .head))))))) | exact (.tail (.tail (.tail (.tail (.tail (.tail (.tail (.tail .head)))))))) | exact (.tail (.tail (.tail (.tail (.tail (.tail (.tail (.tail (.tail .head))))))))) | exact (.tail (.tail (.tail (.tail (.tail (.tail (.tail (.tail (.tail (.tail .head)))))))))) | exact (.tail (.tail (.tail (.tail (.tail (.tail (.tail (.tail (.tail (.tail (.tail .head))))))))))) | exact (.tail (.tail (.tail (.tail (.tail (.tail (.tail (.tail (.tail (.tail (.tail (.tail .head)))))))))))) | exact (.tail (.tail (.tail (.tail (.tail (.tail (.tail (.tail (.tail (.tail (.tail (.tail (.tail .head))))))))))))))))) ⟨_, by repeat (first | exact .nil | exact Pick.rfl' _ | exact Pick.skip (Pick.rfl' _) | exact Pick.skip (Pick.skip (Pick.rfl' _)) | (apply Pick.cons; focus (first | exact .head | exact (.tail .head) | exact (.tail (.tail .head)) | exact (.tail (.tail (.tail .head))) | exact (.tail (.tail (.tail (.tail .head)))) | exact (.tail (.tail (.tail (.tail (.tail .head))))) | exact (.tail (.tail (.tail (.tail (.tail (.tail .head)))))) | exact (.tail (.tail (.tail (.tail (.tail (.tail (.tail .head))))))) | exact (.tail (.tail (.tail (.tail (.tail (.tail (.tail (.tail .head)))))))) | exact (.tail (.tail (.tail (.tail (.tail (.tail (.tail (.tail (.tail .head))))))))) | exact (.tail (.tail (.tail (.tail (.tail (.tail (.tail (.tail (.tail (.tail .head)))))))))) | exact (.tail (.tail (.tail (.tail (.tail (.tail (.tail (.tail (.tail (.tail (.tail .head))))))))))) | exact (.tail (.tail (.tail (.tail (.tail (.tail (.tail (.tail (.tail (.tail (.tail (.tail .head)))))))))))) | exact (.tail (.tail (.tail (.tail (.tail (.tail (.tail (.tail (.tail (.tail (.tail (.tail (.tail .head))))))))))))))))⟩ (fun w hw => lay_is (bs := i.bs) (zs := [ld, by1]) (SlAt.mk' (hw.cells (k := ⟨b37, 3, 2 * 1, [.int .i64 (ld : Int), .int .i64 (by1 : Int)], (0, 0)⟩) (by first | exact .head _ | exact .tail _ (.head _) | exact .tail _ (.tail _ (.head _)) | exact .tail _ (.tail _ (.tail _ (.head _))) | exact .tail _ (.tail _ (.tail _ (.tail _ (.head _)))) | exact .tail _ (.tail _ (.tail _ (.tail _ (.tail _ (.head _))))) | exact .tail _ (.tail _ (.tail _ (.tail _ (.tail _ (.tail _ (.head _)))))) | exact .tail _ (.tail _ (.tail _ (.tail _ (.tail _ (.tail _ (.tail _ (.head _))))))) | exact .tail _ (.tail _ (.tail _ (.tail _ (.tail _ (.tail _ (.tail _ (.tail _ (.head _)))))))) | exact .tail _ (.tail _ (.tail _ (.tail _ (.tail _ (.tail _ (.tail _ (.tail _ (.tail _ (.head _))))))))) | exact .tail _ (.tail _ (.tail _ (.tail _ (.tail _ (.tail _ (.tail _ (.tail _ (.tail _ (.tail _ (.head _)))))))))) | exact .tail _ (.tail _ (.tail _ (.tail _ (.tail _ (.tail _ (.tail _ (.tail _ (.tail _ (.tail _ (.tail _ (.head _))))))))))) | exact .tail _ (.tail _ (.tail _ (.tail _ (.tail _ (.tail _ (.tail _ (.tail _ (.tail _ (.tail _ (.tail _ (.tail _ (.head _)))))))))))) | exact .tail _ (.tail _ (.tail _ (.tail _ (.tail _ (.tail _ (.tail _ (.tail _ (.tail _ (.tail _ (.tail _ (.tail _ (.tail _ (.head _)))))))))))))))) (by exact hw.ne2 (k1 := ⟨b37, _, _, _, _⟩) (k2 := ⟨i.b, _, _, _, _⟩) (by repeat (first | exact .nil | exact Pick.rfl' _ | exact Pick.skip (Pick.rfl' _) | exact Pick.skip (Pick.skip (Pick.rfl' _)) | (apply Pick.cons; focus (first | exact .head | exact (.tail .head) | exact (.tail (.tail .head)) | exact (.tail (.tail (.tail .head))) | exact (.tail (.tail (.tail (.tail .head)))) | exact (.tail (.tail (.tail (.tail (.tail .head))))) | exact (.tail (.tail (.tail (.tail (.tail (.tail .head)))))) | exact (.tail (.tail (.tail (.tail (.tail (.tail (.tail .head))))))) | exact (.tail (.tail (.tail (.tail (.tail (.tail (.tail (.tail .head)))))))) | exact (.tail (.tail (.tail (.tail (.tail (.tail (.tail (.tail (.tail .head))))))))) | exact (.tail (.tail (.tail (.tail (.tail (.tail (.tail (.tail (.tail (.tail .head)))))))))) | exact (.tail (.tail (.tail (.tail (.tail (.tail (.tail (.tail (.tail (.tail (.tail .head))))))))))) | exact (.tail (.tail (.tail (.tail (.tail (.tail (.tail (.tail (.tail (.tail (.tail (.tail .head)))))))))))) | exact (.tail (.tail (.tail (.tail (.tail (.tail (.tail (.tail (.tail (.tail (.tail (.tail (.tail .head)))))))))))))))))) (by simp) (by simp) (.inl rfl) (by omega) rfl rfl) ?_
    rintro _ _ ⟨b38, c38, h38, rfl, rfl⟩
    refine GB_one 9 (by kernel_rfl) ?_
    refine HO_w rfl rfl rfl (W_appB (dig) Try.underlying25 el5 rfl rfl (by first | exact .head | exact (.tail .head) | exact (.tail (.tail .head)) | exact (.tail (.tail (.tail .head))) | exact (.tail (.tail (.tail (.tail .head)))) | exact (.tail (.tail (.tail (.tail (.tail .head))))) | exact (.tail (.tail (.tail (.tail (.tail (.tail .head)))))) | exact (.tail (.tail (.tail (.tail (.tail (.tail (.tail .head))))))) | exact (.tail (.tail (.tail (.tail (.tail (.tail (.tail (.tail .head)))))))) | exact (.tail (.tail (.tail (.tail (.tail (.tail (.tail (.tail (.tail .head))))))))) | exact (.tail (.tail (.tail (.tail (.tail (.tail (.tail (.tail (.tail (.tail .head)))))))))) | exact (.tail (.tail (.tail (.tail (.tail (.tail (.tail (.tail (.tail (.tail (.tail .head))))))))))) | exact (.tail (.tail (.tail (.tail (.tail (.tail (.tail (.tail (.tail (.tail (.tail (.tail .head)))))))))))) | exact (.tail (.tail (.tail (.tail (.tail (.tail (.tail (.tail (.tail (.tail (.tail (.tail (.tail .head)))))))))))))) rfl hdl (.inl rfl) (fun w s => segAt (s.cells (k := ⟨b6, 47, _, segL ⟨(ld : Int), (by1 : Int), dig, hdl⟩, (0, 0)⟩) (by first | exact .head _ | exact .tail _ (.head _) | exact .tail _ (.tail _ (.head _)) | exact .tail _ (.tail _ (.tail _ (.head _))) | exact .tail _ (.tail _ (.tail _ (.tail _ (.head _)))) | exact .tail _ (.tail _ (.tail _ (.tail _ (.tail _ (.head _))))) | exact .tail _ (.tail _ (.tail _ (.tail _ (.tail _ (.tail _ (.head _)))))) | exact .tail _ (.tail _ (.tail _ (.tail _ (.tail _ (.tail _ (.tail _ (.head _))))))) | exact .tail _ (.tail _ (.tail _ (.tail _ (.tail _ (.tail _ (.tail _ (.tail _ (.head _)))))))) | exact .tail _ (.tail _ (.tail _ (.tail _ (.tail _ (.tail _ (.tail _ (.tail _ (.tail _ (.head _))))))))) | exact .tail _ (.tail _ (.tail _ (.tail _ (.tail _ (.tail _ (.tail _ (.tail _ (.tail _ (.tail _ (.head _)))))))))) | exact .tail _ (.tail _ (.tail _ (.tail _ (.tail _ (.tail _ (.tail _ (.tail _ (.tail _ (.tail _ (.tail _ (.head _))))))))))) | exact .tail _ (.tail _ (.tail _ (.tail _ (.tail _ (.tail _ (.tail _ (.tail _ (.tail _ (.tail _ (.tail _ (.tail _ (.head _)))))))))))) | exact .tail _ (.tail _ (.tail _ (.tail _ (.tail _ (.tail _ (.tail _ (.tail _ (.tail _ (.tail _ (.tail _ (.tail _ (.tail _ (.head _)))))))))))))))) (by simp only [List.length_append, lay2_len, hdl, hbl]; omega) fun b41 c41 h41 => ⟨⟨_, by repeat (first | exact .nil | exact Pick.rfl' _ | exact Pick.skip (Pick.rfl' _) | exact Pick.skip (Pick.skip (Pick.rfl' _)) | (apply Pick.cons; focus (first | exact .head | exact (.tail .head) | exact (.tail (.tail .head)) | exact (.tail (.tail (.tail .head))) | exact (.tail (.tail (.tail (.tail .head)))) | exact (.tail (.tail (.tail (.tail (.tail .head))))) | exact (.tail (.tail (.tail (.tail (.tail (.tail .head)))))) | exact (.tail (.tail (.tail (.tail (.tail (.tail (.tail .head))))))) | exact (.tail (.tail (.tail (.tail (.tail (.tail (.tail (.tail .head)))))))) | exact (.tail (.tail (.tail (.tail (.tail (.tail (.tail (.tail (.tail .head))))))))) | exact (.tail (.tail (.tail (.tail (.tail (.tail (.tail (.tail (.tail (.tail .head)))))))))) | exact (.tail (.tail (.tail (.tail (.tail (.tail (.tail (.tail (.tail (.tail (.tail .head))))))))))) | exact (.tail (.tail (.tail (.tail (.tail (.tail (.tail (.tail (.tail (.tail (.tail (.tail .head)))))))))))) | exact (.tail (.tail (.tail (.tail (.tail (.tail (.tail (.tail (.tail (.tail (.tail (.tail (.tail .head))))))))))))))))⟩, ?_⟩)
    refine GB_y 10 rfl (by kernel_rfl) (by kernel_rfl) (by kernel_rfl) (fun _ _ _ h => h) rfl rfl (Y_assign rfl) ?_
    refine GB_done (by kernel_rfl) ?_
    (repeat (first | (with_reducible refine R_seq ?_) | (with_reducible refine R_block_normal ?_)))
    (repeat (with_reducible refine G_seq ?_))
    refine G_region ?_
    refine GL_y rfl rfl (Y_addN (b := 1) rfl rfl (by first | omega | decide)) ?_
    refine GL_y rfl rfl (Y_move rfl) ?_
    refine GL_nil ?_
    (repeat (first | (with_reducible refine R_seq ?_) | (with_reducible refine R_block_normal ?_)))
    (repeat (with_reducible refine R_block_normal ?_))
    refine R_fam ⟨i.j + 1, b41, c41, i.bs ++ [ld, by1].flatMap le4 ++ dig⟩ ?_ (⟨by first | rfl | decide, by first | rfl | decide, by first | rfl | decide, by first | rfl | decide, trivial⟩) (by repeat (first | exact .nil | exact Pick.rfl' _ | exact Pick.skip (Pick.rfl' _) | exact Pick.skip (Pick.skip (Pick.rfl' _)) | (apply Pick.cons; focus (first | exact .head | exact (.tail .head) | exact (.tail (.tail .head)) | exact (.tail (.tail (.tail .head))) | exact (.tail (.tail (.tail (.tail .head)))) | exact (.tail (.tail (.tail (.tail (.tail .head))))) | exact (.tail (.tail (.tail (.tail (.tail (.tail .head)))))) | exact (.tail (.tail (.tail (.tail (.tail (.tail (.tail .head))))))) | exact (.tail (.tail (.tail (.tail (.tail (.tail (.tail (.tail .head)))))))) | exact (.tail (.tail (.tail (.tail (.tail (.tail (.tail (.tail (.tail .head))))))))) | exact (.tail (.tail (.tail (.tail (.tail (.tail (.tail (.tail (.tail (.tail .head)))))))))) | exact (.tail (.tail (.tail (.tail (.tail (.tail (.tail (.tail (.tail (.tail (.tail .head))))))))))) | exact (.tail (.tail (.tail (.tail (.tail (.tail (.tail (.tail (.tail (.tail (.tail (.tail .head)))))))))))) | exact (.tail (.tail (.tail (.tail (.tail (.tail (.tail (.tail (.tail (.tail (.tail (.tail (.tail .head)))))))))))))))))
    exact ⟨⟨by simp only; omega, hst, h41⟩, by simp only; omega⟩
  · -- no
    (repeat (with_reducible refine G_seq ?_))
    refine G_exit ?_
    (repeat (first | (with_reducible refine R_then_exit ?_) | (with_reducible refine R_block_exit ?_) | (with_reducible refine R_block_other (by decide) ?_)))
    (repeat (first | (with_reducible refine R_seq ?_) | (with_reducible refine R_block_normal ?_)))
    (repeat (with_reducible refine G_seq ?_))
    refine G_region ?_
    refine GL_y rfl rfl (Y_move rfl) ?_
    refine GL_y rfl rfl (Y_assign rfl) ?_
    refine GL_y rfl rfl (Y_assign rfl) ?_
    refine GL_nil ?_
    (repeat (first | (with_reducible refine R_seq ?_) | (with_reducible refine R_block_normal ?_)))
    (repeat (with_reducible refine G_seq ?_))
    refine G_ret ?_
    (repeat (first | (with_reducible refine R_then_ret ?_) | (with_reducible refine R_block_ret ?_)))
    have hall : i.bs = bytesM ⟨(n1 : Int), (n2 : Int), (n3 : Int), (n4 : Int), segs⟩ := by rw [hbs, List.take_of_length_le (by omega)]; rfl
    rw [hall] at hc
    refine R_ret (.tmp rfl (.tmp rfl .nil)) [⟨i.b, 5, i.c * 1, B i.bs, (0, 0)⟩] (by repeat (first | exact .nil | exact Pick.rfl' _ | exact Pick.skip (Pick.rfl' _) | exact Pick.skip (Pick.skip (Pick.rfl' _)) | (apply Pick.cons; focus (first | exact .head | exact (.tail .head) | exact (.tail (.tail .head)) | exact (.tail (.tail (.tail .head))) | exact (.tail (.tail (.tail (.tail .head)))) | exact (.tail (.tail (.tail (.tail (.tail .head))))) | exact (.tail (.tail (.tail (.tail (.tail (.tail .head)))))) | exact (.tail (.tail (.tail (.tail (.tail (.tail (.tail .head))))))) | exact (.tail (.tail (.tail (.tail (.tail (.tail (.tail (.tail .head)))))))) | exact (.tail (.tail (.tail (.tail (.tail (.tail (.tail (.tail (.tail .head))))))))) | exact (.tail (.tail (.tail (.tail (.tail (.tail (.tail (.tail (.tail (.tail .head)))))))))) | exact (.tail (.tail (.tail (.tail (.tail (.tail (.tail (.tail (.tail (.tail (.tail .head))))))))))) | exact (.tail (.tail (.tail (.tail (.tail (.tail (.tail (.tail (.tail (.tail (.tail (.tail .head)))))))))))) | exact (.tail (.tail (.tail (.tail (.tail (.tail (.tail (.tail (.tail (.tail (.tail (.tail (.tail .head))))))))))))))))) ⟨i.b, i.c, hc, by rw [hall]; rfl, by rw [hall]⟩
end Go.Proofs.Ythabomkcangegaa

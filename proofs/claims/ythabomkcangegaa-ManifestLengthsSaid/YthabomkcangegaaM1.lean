/-
  need, within, check.
-/
import Derived.Test.YthabomkcangegaaMD
import Derived.Test.YthabomkcangegaaRows
namespace Go.Proofs.Ythabomkcangegaa
open Go Go.Sl Go.RowKit

theorem ag24 : TAgg Try.prog 24 5 := ⟨_, Try.underlying24, rfl, by kernel_rfl⟩
theorem ag45 : TAgg Try.prog 45 32 := ⟨_, Try.underlying45, rfl, by kernel_rfl⟩
theorem ag47 : TAgg Try.prog 47 34 := ⟨_, Try.underlying47, rfl, by kernel_rfl⟩
theorem ar45 : TArr Try.prog 45 32 5 1 := ⟨Try.underlying45, by kernel_rfl⟩
theorem eg45 : Try.prog.eqGuardType Try.prog.depth 45 = false := by kernel_rfl
theorem eg47 : Try.prog.eqGuardType Try.prog.depth 47 = false := by kernel_rfl
theorem el3 : TEl Try.prog 3 1 8 := TEl.mk' (by kernel_rfl)
theorem el47 : TEl Try.prog 47 34 48 := TEl.mk' (by kernel_rfl)
theorem el5 : TEl Try.prog 5 1 1 := TEl.mk' (by kernel_rfl)
theorem sc3 : TScal Try.prog 3 := ⟨_, Try.underlying3, rfl, by kernel_rfl⟩
theorem sc4 : TScal Try.prog 4 := ⟨_, Try.underlying4, rfl, by kernel_rfl⟩
theorem sc5 : TScal Try.prog 5 := ⟨_, Try.underlying5, rfl, by kernel_rfl⟩
theorem sl22 : TSli Try.prog 22 47 34 := ⟨Try.underlying22, by kernel_rfl⟩
theorem sl25 : TSli Try.prog 25 5 1 := ⟨Try.underlying25, by kernel_rfl⟩
theorem sl49 : TSli Try.prog 49 3 1 := ⟨Try.underlying49, by kernel_rfl⟩
theorem ti45 : TInts Try.prog 45 32 5 := ⟨Try.underlying45, ⟨_, Try.underlying5⟩, ⟨_, Try.underlying5, rfl, by kernel_rfl⟩⟩
theorem zr24 : TZero Try.prog 24 ([(.int .i64 0), (.int .i64 0), (.int .i64 0), (.int .i64 0), (.slice none 0 0)]) := by unfold TZero; kernel_rfl
theorem zr45 : TZero Try.prog 45 (List.replicate 32 (bv 0)) := by unfold TZero; kernel_rfl
theorem zr47 : TZero Try.prog 47 ([(.int .i64 0), (.int .i64 0)] ++ List.replicate 32 (bv 0)) := by unfold TZero; kernel_rfl
theorem build61 (w : World) : (Instr.build 61 #[]).run Try.prog w = .ok (.agg #[]) w := run_build w 61 #[] _ (by kernel_rfl)
theorem need_is {b : Bool} {w : World} : FnAt Try.prog 23 [.bool b] [] w (PN b) := by
  refine FnAt.intro Try.func23 rfl Try.ntmps23 rfl _ rfl ?_
  (repeat (with_reducible refine G_seq ?_))
  refine G_region ?_
  refine GL_y rfl rfl (Y_move rfl) ?_
  refine GL_y rfl rfl (Y_not rfl) ?_
  refine GL_nil ?_
  (repeat (first | (with_reducible refine R_seq ?_) | (with_reducible refine R_block_normal ?_)))
  (repeat (with_reducible refine G_seq ?_))
  refine G_cond rfl (fun h3 => ?_) (fun h3 => ?_)
  · -- yes
    (repeat (with_reducible refine G_seq ?_))
    refine G_region ?_
    refine GL_y rfl rfl (Y_build (vs := []) rfl build61) ?_
    refine GL_y rfl rfl (Y_iface Try.underlying61 rfl) ?_
    refine GL_panic rfl rfl ?_
    (repeat (first | (with_reducible refine R_then_panic ?_) | (with_reducible refine R_block_panic ?_)))
    refine R_panic [] .nil ⟨rfl, .inr ⟨by simpa using h3, rfl⟩⟩
  · -- no
    (repeat (with_reducible refine G_seq ?_))
    refine G_skip ?_
    (repeat (first | (with_reducible refine R_seq ?_) | (with_reducible refine R_block_normal ?_)))
    refine R_end .nil [] .nil ⟨rfl, .inl ⟨by simpa using h3, rfl⟩⟩
section
variable {n : Nat} {D : List Deferred} {X : List Nat} {w0 : World} {E : Env} {M : List Blk} {tt : TypeId} {ao : Option Addr} {l c j : Nat} {x i : Operand} {k : IntKind} {zs : List Int} {z : Int}
theorem Y_nAt (hs : SlAt w0 ao (zs.map (Value.int .i64))) (hx : ev E x = some (.slice ao l c)) (hi : ev E i = some (.int k (j : Int))) (hk : zs[j]? = some z) (hl : l = zs.length) :
    Yl Try.prog n D X w0 E M (.indexAddr 49 x i) tt (.pointer (some ⟨adb ao, ado ao + j, none⟩)) :=
  Y_idxS1 sl49 hx (hs.addr fun e => by
    have h1 := (List.getElem?_eq_some_iff.1 hk).1
    rw [List.map_eq_nil_iff] at e; subst e; simp at h1) hi (by rw [hl]; exact (List.getElem?_eq_some_iff.1 hk).1)
theorem Y_nGet (hs : SlAt w0 ao (zs.map (Value.int .i64))) (hX : adb ao ∉ X) (hx : ev E x = some (.pointer (some ⟨adb ao, ado ao + j, none⟩))) (hk : zs[j]? = some z) :
    Yl Try.prog n D X w0 E M (.load 3 x) tt (.int .i64 z) :=
  Y_loadX hx sc3 hs.cells hX rfl (by simp [hk])
end
set_option maxHeartbeats 4000000 in
theorem within_is {ao : Option Addr} {l c : Nat} {zs : List Int} {w : World} (hs : SlAt w ao (zs.map (Value.int .i64))) (hl : l = zs.length) (hlen : zs.length ≤ 1000) :
    FnAt Try.prog 29 [.slice ao l c] [] w (PN (zs.all inB)) := by
  subst hl
  refine FnAt.intro Try.func29 rfl Try.ntmps29 rfl _ rfl ?_
  (repeat (with_reducible refine G_seq ?_))
  refine G_region ?_
  refine GL_y rfl rfl (Y_move rfl) ?_
  refine GL_y rfl rfl (Y_len sl49 rfl) ?_
  refine GL_y rfl rfl (Y_move rfl) ?_
  refine GL_nil ?_
  (repeat (first | (with_reducible refine R_seq ?_) | (with_reducible refine R_block_normal ?_)))
  (repeat (with_reducible refine G_seq ?_))
  refine G_block ?_
  (repeat (with_reducible refine G_seq ?_))
  refine G_loop (ι := Nat) (fun i => zs.length - i) (fun i => i ≤ zs.length ∧ ∀ (q : Nat) y, q < i → zs[q]? = some y → inB y = true) (fun i => [(4, .slice ao zs.length c), (5, .int .i64 (zs.length : Int)), (6, .int .i64 (i : Int))]) (fun i => []) 0 ?_ (⟨by first | rfl | decide, by first | rfl | decide, by first | rfl | decide, trivial⟩) (by repeat (first | exact .nil | exact Pick.rfl' _ | exact Pick.skip (Pick.rfl' _) | exact Pick.skip (Pick.skip (Pick.rfl' _)) | (apply Pick.cons; focus (first | exact .head | exact (.tail .head) | exact (.tail (.tail .head)) | exact (.tail (.tail (.tail .head))) | exact (.tail (.tail (.tail (.tail .head)))) | exact (.tail (.tail (.tail (.tail (.tail .head))))) | exact (.tail (.tail (.tail (.tail (.tail (.tail .head)))))) | exact (.tail (.tail (.tail (.tail (.tail (.tail (.tail .head))))))) | exact (.tail (.tail (.tail (.tail (.tail (.tail (.tail (.tail .head)))))))) | exact (.tail (.tail (.tail (.tail (.tail (.tail (.tail (.tail (.tail .head))))))))) | exact (.tail (.tail (.tail (.tail (.tail (.tail (.tail (.tail (.tail (.tail .head)))))))))) | exact (.tail (.tail (.tail (.tail (.tail (.tail (.tail (.tail (.tail (.tail (.tail .head))))))))))) | exact (.tail (.tail (.tail (.tail (.tail (.tail (.tail (.tail (.tail (.tail (.tail (.tail .head)))))))))))) | exact (.tail (.tail (.tail (.tail (.tail (.tail (.tail (.tail (.tail (.tail (.tail (.tail (.tail .head))))))))))))))))) ?_
  · exact ⟨by omega, fun q y h => by omega⟩
  intro i ⟨hi, hinv⟩
  (repeat (with_reducible refine G_seq ?_))
  refine G_region ?_
  refine GL_y rfl rfl (Y_lssN rfl rfl) ?_
  refine GL_nil ?_
  (repeat (first | (with_reducible refine R_seq ?_) | (with_reducible refine R_block_normal ?_)))
  (repeat (with_reducible refine G_seq ?_))
  refine G_cond_dec rfl (fun ht7 => ?_) (fun ht7 => ?_)
  · -- yes
    (repeat (with_reducible refine G_seq ?_))
    refine G_skip ?_
    (repeat (first | (with_reducible refine R_seq ?_) | (with_reducible refine R_block_normal ?_)))
    (repeat (with_reducible refine G_seq ?_))
    refine G_block ?_
    obtain ⟨z, hz⟩ : ∃ y, zs[i]? = some y := ⟨zs[i], List.getElem?_eq_getElem ht7⟩
    (repeat (with_reducible refine G_seq ?_))
    refine G_region ?_
    refine GL_y rfl rfl (Y_nAt hs rfl rfl hz rfl) ?_
    refine GL_y rfl rfl (Y_nGet hs (by simp) rfl hz) ?_
    refine GL_y rfl rfl (Y_assign rfl) ?_
    refine GL_nil ?_
    (repeat (first | (with_reducible refine R_seq ?_) | (with_reducible refine R_block_normal ?_)))
    (repeat (with_reducible refine G_seq ?_))
    refine G_region ?_
    refine GL_y rfl rfl (Y_move rfl) ?_
    refine GL_y rfl rfl (Y_iop rfl rfl rfl) ?_
    refine GL_y rfl rfl (Y_move rfl) ?_
    refine GL_bool 12 rfl (fun g12 => ?_) (fun g12 => ?_)
    · -- g12 True
      refine GL_y rfl rfl (Y_move rfl) ?_
      refine GL_y rfl rfl (Y_iop rfl rfl rfl) ?_
      refine GL_y rfl rfl (Y_pick rfl rfl rfl rfl) ?_
      refine GL_set 15 (.bool (inB z)) rfl (by simp only [inB, Value.bool.injEq]; simp at g12; simp [g12]) ?_
      refine GL_callP rfl rfl rfl rfl Try.call23 .nil (fun w hw => need_is) ?_ ?_ ?_
      rotate_left
      · -- it panicked
        rintro c N ⟨rfl, ⟨_, h⟩ | ⟨hb, h⟩⟩
        · cases h
        injection h with h
        subst h
        (repeat (first | (with_reducible refine R_then_panic ?_) | (with_reducible refine R_block_panic ?_)))
        refine R_panic [] .nil ⟨rfl, .inr ⟨?_, rfl⟩⟩
        rw [List.all_eq_false]
        exact ⟨z, List.mem_of_getElem? hz, by simp [hb]⟩
      · -- outgrown
        rintro N ⟨_, ⟨_, h⟩ | ⟨_, h⟩⟩ <;> cases h
      rintro v N ⟨rfl, ⟨hb, h⟩ | ⟨_, h⟩⟩
      rotate_left
      · cases h
      injection h with h
      subst h
      refine GL_nil ?_
      (repeat (first | (with_reducible refine R_seq ?_) | (with_reducible refine R_block_normal ?_)))
      (repeat (with_reducible refine G_seq ?_))
      refine G_region ?_
      refine GL_y rfl rfl (Y_addN (b := 1) rfl rfl (by first | omega | decide)) ?_
      refine GL_y rfl rfl (Y_move rfl) ?_
      refine GL_nil ?_
      (repeat (first | (with_reducible refine R_seq ?_) | (with_reducible refine R_block_normal ?_)))
      (repeat (with_reducible refine R_block_normal ?_))
      refine R_fam (i + 1) ?_ (⟨by first | rfl | decide, by first | rfl | decide, by first | rfl | decide, trivial⟩) (by repeat (first | exact .nil | exact Pick.rfl' _ | exact Pick.skip (Pick.rfl' _) | exact Pick.skip (Pick.skip (Pick.rfl' _)) | (apply Pick.cons; focus (first | exact .head | exact (.tail .head) | exact (.tail (.tail .head)) | exact (.tail (.tail (.tail .head))) | exact (.tail (.tail (.tail (.tail .head)))) | exact (.tail (.tail (.tail (.tail (.tail .head))))) | exact (.tail (.tail (.tail (.tail (.tail (.tail .head)))))) | exact (.tail (.tail (.tail (.tail (.tail (.tail (.tail .head))))))) | exact (.tail (.tail (.tail (.tail (.tail (.tail (.tail (.tail .head)))))))) | exact (.tail (.tail (.tail (.tail (.tail (.tail (.tail (.tail (.tail .head))))))))) | exact (.tail (.tail (.tail (.tail (.tail (.tail (.tail (.tail (.tail (.tail .head)))))))))) | exact (.tail (.tail (.tail (.tail (.tail (.tail (.tail (.tail (.tail (.tail (.tail .head))))))))))) | exact (.tail (.tail (.tail (.tail (.tail (.tail (.tail (.tail (.tail (.tail (.tail (.tail .head)))))))))))) | exact (.tail (.tail (.tail (.tail (.tail (.tail (.tail (.tail (.tail (.tail (.tail (.tail (.tail .head)))))))))))))))))
      refine ⟨⟨by omega, fun q y hq hy => ?_⟩, by omega⟩
      by_cases hqe : q = i
      · subst hqe; rw [hz] at hy; injection hy with hy; subst hy; exact hb
      · exact hinv q y (by omega) hy
    · -- g12 False
      refine GL_skip rfl rfl ?_
      refine GL_skip rfl rfl ?_
      refine GL_y rfl rfl (Y_pick rfl rfl rfl rfl) ?_
      refine GL_set 15 (.bool (inB z)) rfl (by simp only [inB, Value.bool.injEq]; simp at g12; rw [eq_comm, decide_eq_false_iff_not]; omega) ?_
      refine GL_callP rfl rfl rfl rfl Try.call23 .nil (fun w hw => need_is) ?_ ?_ ?_
      rotate_left
      · -- it panicked
        rintro c N ⟨rfl, ⟨_, h⟩ | ⟨hb, h⟩⟩
        · cases h
        injection h with h
        subst h
        (repeat (first | (with_reducible refine R_then_panic ?_) | (with_reducible refine R_block_panic ?_)))
        refine R_panic [] .nil ⟨rfl, .inr ⟨?_, rfl⟩⟩
        rw [List.all_eq_false]
        exact ⟨z, List.mem_of_getElem? hz, by simp [hb]⟩
      · -- outgrown
        rintro N ⟨_, ⟨_, h⟩ | ⟨_, h⟩⟩ <;> cases h
      rintro v N ⟨rfl, ⟨hb, h⟩ | ⟨_, h⟩⟩
      rotate_left
      · cases h
      injection h with h
      subst h
      refine GL_nil ?_
      (repeat (first | (with_reducible refine R_seq ?_) | (with_reducible refine R_block_normal ?_)))
      (repeat (with_reducible refine G_seq ?_))
      refine G_region ?_
      refine GL_y rfl rfl (Y_addN (b := 1) rfl rfl (by first | omega | decide)) ?_
      refine GL_y rfl rfl (Y_move rfl) ?_
      refine GL_nil ?_
      (repeat (first | (with_reducible refine R_seq ?_) | (with_reducible refine R_block_normal ?_)))
      (repeat (with_reducible refine R_block_normal ?_))
      refine R_fam (i + 1) ?_ (⟨by first | rfl | decide, by first | rfl | decide, by first | rfl | decide, trivial⟩) (by repeat (first | exact .nil | exact Pick.rfl' _ | exact Pick.skip (Pick.rfl' _) | exact Pick.skip (Pick.skip (Pick.rfl' _)) | (apply Pick.cons; focus (first | exact .head | exact (.tail .head) | exact (.tail (.tail .head)) | exact (.tail (.tail (.tail .head))) | exact (.tail (.tail (.tail (.tail .head)))) | exact (.tail (.tail (.tail (.tail (.tail .head))))) | exact (.tail (.tail (.tail (.tail (.tail (.tail .head)))))) | exact (.tail (.tail (.tail (.tail (.tail (.tail (.tail .head))))))) | exact (.tail (.tail (.tail (.tail (.tail (.tail (.tail (.tail .head)))))))) | exact (.tail (.tail (.tail (.tail (.tail (.tail (.tail (.tail (.tail .head))))))))) | exact (.tail (.tail (.tail (.tail (.tail (.tail (.tail (.tail (.tail (.tail .head)))))))))) | exact (.tail (.tail (.tail (.tail (.tail (.tail (.tail (.tail (.tail (.tail (.tail .head))))))))))) | exact (.tail (.tail (.tail (.tail (.tail (.tail (.tail (.tail (.tail (.tail (.tail (.tail .head)))))))))))) | exact (.tail (.tail (.tail (.tail (.tail (.tail (.tail (.tail (.tail (.tail (.tail (.tail (.tail .head)))))))))))))))))
      refine ⟨⟨by omega, fun q y hq hy => ?_⟩, by omega⟩
      by_cases hqe : q = i
      · subst hqe; rw [hz] at hy; injection hy with hy; subst hy; exact hb
      · exact hinv q y (by omega) hy
  · -- no
    (repeat (with_reducible refine G_seq ?_))
    refine G_exit ?_
    (repeat (first | (with_reducible refine R_then_exit ?_) | (with_reducible refine R_block_exit ?_) | (with_reducible refine R_block_other (by decide) ?_)))
    (repeat (first | (with_reducible refine R_seq ?_) | (with_reducible refine R_block_normal ?_)))
    refine R_end .nil [] .nil ⟨rfl, .inl ⟨List.all_eq_true.2 fun y hy => ?_, rfl⟩⟩
    obtain ⟨q, hq⟩ := List.getElem?_of_mem hy
    exact hinv q y (by have := (List.getElem?_eq_some_iff.1 hq).1; omega) hq
end Go.Proofs.Ythabomkcangegaa

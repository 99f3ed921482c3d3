/-
  append(x, make([]byte, n)...): n zero bytes more, onto a block of the call's own.
-/
import Derived.Test.YthabomkcangegaaSlH
namespace Go.Sl
open Go Go.RowKit
theorem zeroB (n : Nat) : Builtin.zeroCells (Value.int .u8 0).cells n = (B (List.replicate n 0)).toArray := by
  apply Array.toList_inj.1
  apply List.ext_getElem
  · simp [Builtin.zeroCells, B, Value.cells]
  · intro i h1 h2
    simp [Builtin.zeroCells, B, Value.cells, Nat.mod_one, bv]
theorem run_appZ_room {P : Program} {w : World} {t tn ty e : TypeId} {i : TypeInfo} {k : IntKind} (ht : P.underlying t = some (.slice e)) (htn : P.underlying tn = some (.int k)) (hi : P.info? e = some i) (hz : i.zero = some (.int .u8 0)) (hs : i.size = 1) (hb : i.bytes = 1)
    (b : Nat) (l c n : Nat) (h0 : 0 < n) (hn : n ≤ 1000000) (hr : l + n ≤ c) {w' : World} (hst : (storeCells ⟨b, l, none⟩ (B (List.replicate n 0))).run P w = .ok () w') :
    (Builtin.append_ #[t, tn] ty #[.slice (some ⟨b, 0, none⟩) l c, .int .i64 (n : Int)]).run P w = .ok (.slice (some ⟨b, 0, none⟩) (l + n) c) w' := by
  have hw : IntKind.i64.wrap (n : Int) = n := wrap64_nat (by omega)
  have h1 : ¬ ((n : Int) < 0) := by omega
  have h2 : ¬ (281474976710656 < (n : Int)) := by omega
  have h3 : ¬ n = 0 := by omega
  simp [Builtin.append_, run_underlying ht, run_underlying htn, sizeOf, typeInfo, hi, hs, hb, asInt, asIntOf, hw, h1, h2, h3, hr, zeroValue, hz, zeroB, addr_add, hst]
theorem run_appZ_grow {P : Program} {w : World} {t tn ty e : TypeId} {i : TypeInfo} {k : IntKind} (ht : P.underlying t = some (.slice e)) (htn : P.underlying tn = some (.int k)) (hi : P.info? e = some i) (hz : i.zero = some (.int .u8 0)) (hs : i.size = 1) (hb : i.bytes = 1)
    (b : Nat) (l c n : Nat) (olds : List Value) (hlo : olds.length = l) (holds : ∀ j v, olds[j]? = some v → w.cell? ⟨b, j, none⟩ = some v) (h0 : 0 < n) (hn : l + n ≤ 1000000) (hr : ¬ l + n ≤ c) (hcap : Builtin.nextslicecap (l + n) c ≤ 281474976710656) :
    (Builtin.append_ #[t, tn] ty #[.slice (some ⟨b, 0, none⟩) l c, .int .i64 (n : Int)]).run P w =
      .ok (.slice (some ⟨w.heap.size, 0, none⟩) (l + n) (grownCap w (l + n) c e)) (w.drew.alloc (.cells (olds.toArray ++ (B (List.replicate n 0)).toArray ++ Builtin.zeroCells (Value.int .u8 0).cells (grownCap w (l + n) c e - (l + n))) e)) := by
  have hw : IntKind.i64.wrap (n : Int) = n := wrap64_nat (by omega)
  have h1 : ¬ ((n : Int) < 0) := by omega
  have h2 : ¬ (281474976710656 < (n : Int)) := by omega
  have h3 : ¬ n = 0 := by omega
  have h63' : ¬ (9223372036854775807 < ((l : Int) + (n : Int))) := by omega
  have h48' : ¬ (281474976710656 < Builtin.nextslicecap (l + n) c) := by omega
  have hfo := run_firstCells_some (P := P) w.drew i.size l ⟨b, 0, none⟩ l c olds (by rw [hs]; omega) (by simpa [addr_add] using holds)
  rw [hs] at hfo
  simp [Builtin.append_, run_underlying ht, run_underlying htn, sizeOf, typeInfo, hi, hs, hb, asInt, asIntOf, hw, h1, h2, h3, hr, zeroValue, hz, zeroB, h63', h48', Question.forced, hfo, newRow, grownCap]
theorem W_appZ {P : Program} {n0 : Nat} {D : List Deferred} {X : List Nat} {w0 : World} {E : Env} {M M1 : List Blk} {tt t tn e : TypeId} {kk : IntKind} {x y : Operand} {b c l n : Nat} {bs : List UInt8} {K : Value → List Blk → Prop}
    (ht : P.underlying t = some (.slice e)) (htn : P.underlying tn = some (.int kk)) (he : (P.info? e).map (fun i => (i.zero, i.size, i.bytes)) = some (some (.int .u8 0), 1, 1))
    (hx : ev E x = some (.slice (some ⟨b, 0, none⟩) l c)) (hy : ev E y = some (.int .i64 (n : Int))) (hr : Rem ⟨b, e, c * 1, B bs, (0, 0)⟩ M M1) (hl : l = bs.length) (h0 : 0 < n) (hb : l + n ≤ 1000000)
    (k : ∀ b' c', (bs ++ List.replicate n 0).length ≤ c' → K (.slice (some ⟨b', 0, none⟩) (bs ++ List.replicate n 0).length c') (⟨b', e, c' * 1, B (bs ++ List.replicate n 0), (0, 0)⟩ :: M1)) :
    Wr P n0 D X w0 E M (.call ⟨.builtin .append, #[x, y], #[t, tn]⟩) tt K := fun a w s d pos af g => by
  obtain ⟨i, hi, hz⟩ := Option.map_eq_some_iff.1 he
  simp only [Prod.mk.injEq] at hz
  obtain ⟨hz1, hs, hby⟩ := hz
  subst hl
  have sp := s.2.perm hr.perm
  have hk := sp.mem ⟨b, e, c * 1, B bs, (0, 0)⟩ (List.mem_cons_self)
  obtain ⟨cur, hc, hcs, hcl, htk⟩ := hk.ex
  simp only [Nat.mul_one] at hc hcs hcl htk
  have hlen : (bs ++ List.replicate n (0 : UInt8)).length = bs.length + n := by simp
  have exec : ∀ v' w', (Builtin.append_ #[t, tn] tt #[.slice (some ⟨b, 0, none⟩) bs.length c, .int .i64 (n : Int)]).run P w = .ok v' w' →
      (execOp a.eval ⟨d, .call ⟨.builtin .append, #[x, y], #[t, tn]⟩, tt, pos, af, g⟩).run P w = .ok (.value v') w' := fun v' w' h => by
    simp [execOp, resolve, invoke, builtin, s.1.ev hx, s.1.ev hy, h]
  have hbl : (B bs).length = bs.length := len_B bs
  have hzl : (B (List.replicate n (0 : UInt8))).length = n := by simp [B]
  by_cases hroom : bs.length + n ≤ c
  · have hst := run_storeCells_at P b bs.length e (B (List.replicate n 0)) 0 cur w hc (by rw [hzl, hcs]; omega) (fun v hv => List.all_eq_true.1 (all_B _) v hv)
    simp only [Nat.add_zero] at hst
    have hk' := k b c (by rw [hlen]; exact hroom)
    rw [hlen] at hk'
    refine ⟨_, w.setRow b (cur.toList.take bs.length ++ B (List.replicate n 0) ++ cur.toList.drop (bs.length + (B (List.replicate n (0 : UInt8))).length)).toArray, ⟨b, e, c * 1, B (bs ++ List.replicate n 0), (0, 0)⟩ :: M1, exec _ _ (run_appZ_room ht htn hi hz1 hs hby b _ c n h0 (by omega) hroom hst), ?_, hk'⟩
    have hoth : ∀ j, j ≠ b → (w.setRow b (cur.toList.take bs.length ++ B (List.replicate n 0) ++ cur.toList.drop (bs.length + (B (List.replicate n (0 : UInt8))).length)).toArray).heap[j]? = w.heap[j]? := fun j hj => setRow_other w b j _ hj
    have hnd := sp.nodup
    simp only [List.map_cons, List.nodup_cons] at hnd
    refine ⟨s.2.os, s.2.tape, s.2.output, by simpa using s.2.size, fun j hj hX => ?_, by simpa using hnd, fun j hj => ?_, fun j hj => ?_⟩
    · rw [hoth j fun e => ?_]
      · exact s.2.same j hj hX
      · subst e
        rcases sp.own ⟨j, _, _, _, _⟩ (List.mem_cons_self) with h2 | h2
        · exact hX h2
        · simp only at h2; omega
    · rcases List.mem_cons.1 hj with rfl | hj
      · exact sp.own ⟨b, e, c * 1, B bs, (0, 0)⟩ (List.mem_cons_self)
      · exact sp.own j (List.mem_cons_of_mem _ hj)
    · rcases List.mem_cons.1 hj with rfl | hj
      · refine ⟨_, setRow_heap w b cur _ e (0, 0) hc, ?_, ?_, ?_⟩
        · simp only [List.size_toArray, List.length_append, List.length_take, List.length_drop, Array.length_toList, hzl, hcs]; omega
        · show (B (bs ++ List.replicate n 0)).length ≤ c * 1
          rw [B_app, List.length_append, hbl, hzl]; omega
        · simp only
          have e1 : cur.toList.take bs.length = B bs := by rw [← hbl]; exact htk
          rw [e1, B_app]
          exact List.take_left
      · exact (sp.mem j (List.mem_cons_of_mem _ hj)).of_same (hoth _ fun e => hnd.1 (e ▸ List.mem_map_of_mem hj))
  · have hfit : Builtin.nextslicecap (bs.length + n) c * 1 ≤ 281474976710656 := growslice_fits (by omega) (by omega)
    have hrun := run_appZ_grow (w := w) (ty := tt) ht htn hi hz1 hs hby b bs.length c n (B bs) hbl (fun j v hv => by
      have := hk.cells j v hv
      simpa using this) h0 hb hroom (by omega)
    have hge : bs.length + n ≤ grownCap w (bs.length + n) c e := grownCap_ge w (bs.length + n) c e
    have hk' := k w.heap.size (grownCap w (bs.length + n) c e) (by rw [hlen]; exact hge)
    rw [hlen] at hk'
    refine ⟨_, _, ⟨w.heap.size, e, grownCap w (bs.length + n) c e * 1, B (bs ++ List.replicate n 0), (0, 0)⟩ :: M1, exec _ _ hrun, ?_, hk'⟩
    refine s.2.grow (A := [⟨b, e, c * 1, B bs, (0, 0)⟩]) (.cons hr .nil) _ e _ _ _ ?_ ?_ ?_
    · have hzc : (Value.int .u8 0).cells.size = 1 := rfl
      simp only [Array.size_append, List.size_toArray, size_zeroCells, hzc, hbl, hzl, Nat.mul_one]; omega
    · rw [B_app, List.length_append, hbl, hzl]; omega
    · rw [B_app]
      simp only [Array.toList_append]
      exact List.take_left
end Go.Sl

/-
  The logic's rules for append and copy.
-/
import Derived.Test.YtefphcpaakhfbaaSlDraw
namespace Go.Sl
open Go Go.RowKit

/-- The element type's row of the table: its zero value's cells, its bytes. -/
def TEl (P : Program) (e : TypeId) (sz by' : Nat) : Prop := ∃ i z, P.info? e = some i ∧ i.zero = some z ∧ i.size = sz ∧ i.bytes = by' ∧ z.cells.size = sz

theorem TEl.mk' {P : Program} {e sz by' : Nat} (h : (P.info? e).map (fun i => (i.zero.map (·.cells.size), i.size, i.bytes)) = some (some sz, sz, by')) : TEl P e sz by' := by
  obtain ⟨i, hi, hz⟩ := Option.map_eq_some_iff.1 h
  simp only [Prod.mk.injEq, Option.map_eq_some_iff] at hz
  obtain ⟨⟨z, hz1, hz2⟩, h2, h3⟩ := hz
  exact ⟨i, z, hi, hz1, h2, h3, hz2⟩

section
variable {P : Program} {n : Nat} {D : List Deferred} {X : List Nat} {w0 : World} {E : Env} {M : List Blk} {tt : TypeId}

/-- A new block in the place of the blocks A. -/
theorem SL.grow {w : World} (s : SL X M w0 w) {A M1 : List Blk} (hA : Pick M A M1) (d : Nat) (t : TypeId) (cur : Array Value) (xs : List Value) (tot : Nat) (htot : cur.size = tot) (hl : xs.length ≤ tot) (ht : cur.toList.take xs.length = xs) :
    SL X ({ b := w.heap.size, t := t, tot := tot, xs := xs } :: M1) w0 { { w with drawn := d } with heap := w.heap.push (.cells cur t) } := by
  have sa := (s.drew d).alloc t cur xs tot htot hl ht
  have hp : ({ b := w.heap.size, t := t, tot := tot, xs := xs } :: M : List Blk).Perm (({ b := w.heap.size, t := t, tot := tot, xs := xs } :: M1) ++ A) :=
    (hA.perm.trans List.perm_append_comm).cons _
  exact (sa.perm hp).left

/-- 'append' onto a slice that begins a block of the call's own. -/
theorem W_app {t e sz by' : Nat} {x y : Operand} {b c l m c' : Nat} {xs ys : List Value} {fr : Nat × Nat} {ao : Option Addr} {M1 : List Blk} {K : Value → List Blk → Prop}
    (ht : P.underlying t = some (.slice e)) (he : TEl P e sz by') (hx : ev E x = some (.slice (some ⟨b, 0, none⟩) l c)) (hy : ev E y = some (.slice ao m c'))
    (hr : Rem ⟨b, e, c * sz, xs, fr⟩ M M1) (hl : xs.length = l * sz) (hm : ys.length = m * sz) (hfr : fr = (0, 0) ∨ (c = l ∧ 0 < m)) (hs : ∀ w, SL X M w0 w → SlAt w ao ys) (h1 : ys.all Value.oneCell' = true)
    (hpos : 0 < sz) (hb : (l + m) * by' ≤ 140737488355328) (hb2 : l + m ≤ 9223372036854775807)
    (k : ∀ b' c', l + m ≤ c' → K (.slice (some ⟨b', 0, none⟩) (l + m) c') (⟨b', e, c' * sz, xs ++ ys, (0, 0)⟩ :: M1)) :
    Wr P n D X w0 E M (.call ⟨.builtin .append, #[x, y], #[t, t]⟩) tt K := fun a w s d pos af g => by
  obtain ⟨i, z, hi, hz, hsz, hby, hzc⟩ := he
  subst hsz; subst hby
  have hsl := hs w s.2
  have hnews : ∀ ad, ao = some ad → ∀ (j : Nat) u, ys[j]? = some u → w.cell? (ad.add j) = some u := fun ad had j u hu => by
    have hne : ys ≠ [] := fun e => by rw [e] at hu; simp at hu
    have ha := hsl.addr hne
    rw [had] at ha
    injection ha with ha
    have := hsl.cells j u hu
    rw [had] at this
    rw [ha, addr_add]
    simpa [adb, ado] using this
  have hone : ∀ u ∈ ys, u.oneCell' = true := fun v hv => List.all_eq_true.1 h1 v hv
  have sp := s.2.perm hr.perm
  have hk := sp.mem ⟨b, e, c * i.size, xs, fr⟩ (List.mem_cons_self)
  obtain ⟨cur, hc, hcs, hcl, htk⟩ := hk.ex
  simp only at hc hcs hcl htk
  -- an empty source behaves as an address that is never read
  have exec : ∀ v' w', (Builtin.append_ #[t, t] tt #[.slice (some ⟨b, 0, none⟩) l c, .slice ao m c']).run P w = .ok v' w' →
      (execOp a.eval ⟨d, .call ⟨.builtin .append, #[x, y], #[t, t]⟩, tt, pos, af, g⟩).run P w = .ok (.value v') w' := fun v' w' h => by
    simp [execOp, resolve, invoke, builtin, s.1.ev hx, s.1.ev hy, h]
  have hfc : (Builtin.firstCells i.size m (.slice ao m c')).run P w = .ok ys.toArray w := by
    cases ao with
    | none =>
      have : ys = [] := by
        by_cases h : ys = []
        · exact h
        · have := hsl.addr h; simp at this
      subst this
      simp [Builtin.firstCells]
    | some ad => exact run_firstCells_some (P := P) w i.size m ad m c' ys hm (hnews ad rfl)
  have hfs : (Builtin.firstCells i.size l (.slice (some ⟨b, 0, none⟩) l c)).run P w = .ok xs.toArray w :=
    run_firstCells_some (P := P) w i.size l ⟨b, 0, none⟩ l c xs hl (fun j v hv => by
      rw [addr_add]
      have := hk.cells j v hv
      simpa using this)
  by_cases hroom : l + m ≤ c
  · have hfr0 : fr = (0, 0) ∨ m = 0 := by
      rcases hfr with h | h
      · exact .inl h
      · omega
    rcases Nat.eq_zero_or_pos m with hm0 | hmp
    · subst hm0
      have : ys = [] := List.eq_nil_of_length_eq_zero (by simpa using hm)
      subst this
      rcases hfr with hf | hf
      · subst hf
        have hroom' : l ≤ c := hroom
        refine ⟨.slice (some ⟨b, 0, none⟩) (l + 0) c, w, ⟨b, e, c * i.size, xs ++ [], (0, 0)⟩ :: M1, exec _ _ ?_, by simpa using sp, k b c hroom⟩
        simp [Builtin.append_, run_underlying ht, sizeOf, typeInfo, hi, Builtin.lenOf, hroom', hfc, addr_add, storeCells]
      · omega
    · have hf : fr = (0, 0) := by rcases hfr0 with h | h; exact h; omega
      subst hf
      have hst := run_storeCells_at P b (l * i.size) e ys 0 cur w hc (by simp only [Nat.add_zero]; rw [hm, hcs, ← Nat.add_mul]; exact Nat.mul_le_mul_right _ hroom) hone
      simp only [Nat.add_zero] at hst
      have hlen2 : (xs ++ ys).length = (l + m) * i.size := by rw [List.length_append, hl, hm, Nat.add_mul]
      refine ⟨.slice (some ⟨b, 0, none⟩) (l + m) c, w.setRow b (cur.toList.take (l * i.size) ++ ys ++ cur.toList.drop (l * i.size + ys.length)).toArray, ⟨b, e, c * i.size, xs ++ ys, (0, 0)⟩ :: M1, exec _ _ ?_, ?_, k b c hroom⟩
      · simp [Builtin.append_, run_underlying ht, sizeOf, typeInfo, hi, Builtin.lenOf, hroom, hfc, addr_add, hst]
      · have hoth : ∀ j, j ≠ b → (w.setRow b (cur.toList.take (l * i.size) ++ ys ++ cur.toList.drop (l * i.size + ys.length)).toArray).heap[j]? = w.heap[j]? := fun j hj => setRow_other w b j _ hj
        have hnd := sp.nodup
        simp only [List.map_cons, List.nodup_cons] at hnd
        refine ⟨s.2.os, s.2.tape, s.2.output, by simpa using s.2.size, fun j hj hX => ?_, by simpa using hnd, fun j hj => ?_, fun j hj => ?_⟩
        · rw [hoth j fun e => ?_]
          · exact s.2.same j hj hX
          · subst e
            rcases sp.own ⟨j, _, _, _, _⟩ (List.mem_cons_self) with h2 | h2
            · exact hX h2
            · simp only at h2; omega
        · rcases List.mem_cons.1 hj with rfl | hj
          · exact sp.own ⟨b, e, c * i.size, xs, (0, 0)⟩ (List.mem_cons_self)
          · exact sp.own j (List.mem_cons_of_mem _ hj)
        · rcases List.mem_cons.1 hj with rfl | hj
          · refine ⟨_, setRow_heap w b cur _ e (0, 0) hc, ?_, ?_, ?_⟩
            · simp only [List.size_toArray, List.length_append, List.length_take, List.length_drop, Array.length_toList]
              have : l * i.size + m * i.size ≤ c * i.size := by rw [← Nat.add_mul]; exact Nat.mul_le_mul_right _ hroom
              simp only [hcs, hm]; omega
            · simp only [hlen2]; exact Nat.mul_le_mul_right _ hroom
            · simp only
              rw [← hl, htk]
              exact List.take_left
          · exact (sp.mem j (List.mem_cons_of_mem _ hj)).of_same (hoth _ fun e => hnd.1 (e ▸ List.mem_map_of_mem hj))
  · -- it grows
    have hlc : l ≤ c := by
      have h : l * i.size ≤ c * i.size := by rw [← hl]; exact hcl
      exact Nat.le_of_mul_le_mul_right h hpos
    have hmp : 0 < m := by omega
    have hne : ys ≠ [] := fun e => by
      rw [e] at hm
      have : 0 < m * i.size := Nat.mul_pos hmp hpos
      simp at hm; omega
    have hao := hsl.addr hne
    have hrun := run_append_grow (P := P) w t tt e i z ht hi hz ⟨b, 0, none⟩ l c xs hl (fun j v hv => by
      rw [addr_add]
      have := hk.cells j v hv
      simpa using this) _ m c' ys hm (hnews _ hao) (by omega) (by omega) (growslice_fits (by omega) hb)
    rw [← hao] at hrun
    have hge : l + m ≤ grownCap w (l + m) c e := grownCap_ge w (l + m) c e
    have hlen2 : (xs ++ ys).length = (l + m) * i.size := by rw [List.length_append, hl, hm, Nat.add_mul]
    refine ⟨_, _, ⟨w.heap.size, e, grownCap w (l + m) c e * i.size, xs ++ ys, (0, 0)⟩ :: M1, exec _ _ hrun, ?_, k _ _ hge⟩
    refine s.2.grow (A := [⟨b, e, c * i.size, xs, fr⟩]) (.cons hr .nil) _ e _ _ _ ?_ ?_ ?_
    · simp only [Array.size_append, List.size_toArray, size_zeroCells, hzc, hl, hm, ← Nat.add_mul]
      congr 1; omega
    · simp only [hlen2]; exact Nat.mul_le_mul_right _ hge
    · simp only [Array.toList_append, List.append_assoc]
      rw [← List.append_assoc]
      exact List.take_left
/-- 'append' onto nil. -/
theorem W_appNil {t e sz by' : Nat} {x y : Operand} {m c' : Nat} {ys : List Value} {ao : Option Addr} {K : Value → List Blk → Prop}
    (ht : P.underlying t = some (.slice e)) (he : TEl P e sz by') (hx : ev E x = some (.slice none 0 0)) (hy : ev E y = some (.slice ao m c'))
    (hm : ys.length = m * sz) (hm0 : 0 < m) (hs : ∀ w, SL X M w0 w → SlAt w ao ys) (hpos : 0 < sz) (hb : m * by' ≤ 140737488355328) (hb2 : m ≤ 9223372036854775807)
    (k : ∀ b' c', m ≤ c' → K (.slice (some ⟨b', 0, none⟩) m c') (⟨b', e, c' * sz, ys, (0, 0)⟩ :: M)) :
    Wr P n D X w0 E M (.call ⟨.builtin .append, #[x, y], #[t, t]⟩) tt K := fun a w s d pos af g => by
  obtain ⟨i, z, hi, hz, hsz, hby, hzc⟩ := he
  subst hsz; subst hby
  have hsl := hs w s.2
  have hne : ys ≠ [] := fun e => by
    rw [e] at hm
    have : 0 < m * i.size := Nat.mul_pos hm0 hpos
    simp at hm; omega
  have hao := hsl.addr hne
  have hrun := run_append_nil (P := P) w t tt e i z ht hi hz ⟨adb ao, ado ao, none⟩ m c' ys hm (fun j u hu => by rw [addr_add]; exact hsl.cells j u hu) hm0 (by omega) (by omega)
  rw [← hao] at hrun
  have hge : m ≤ grownCap w m 0 e := grownCap_ge w m 0 e
  refine ⟨_, w.drew.alloc (.cells (ys.toArray ++ Builtin.zeroCells z.cells (grownCap w m 0 e - m)) e), ⟨w.heap.size, e, grownCap w m 0 e * i.size, ys, (0, 0)⟩ :: M, ?_, ?_, k _ _ hge⟩
  · simp [execOp, resolve, invoke, builtin, s.1.ev hx, s.1.ev hy, hrun]
  · refine s.2.grow (A := []) .nil _ e _ _ _ ?_ ?_ ?_
    · simp only [Array.size_append, List.size_toArray, size_zeroCells, hzc, hm, ← Nat.add_mul]
      congr 1; omega
    · simp only [hm]; exact Nat.mul_le_mul_right _ hge
    · simp only [Array.toList_append]
      exact List.take_left
/-- nothing appended onto nil. -/
theorem W_appNil0 {t e sz by' : Nat} {x y : Operand} {c' : Nat} {ao : Option Addr} {K : Value → List Blk → Prop}
    (ht : P.underlying t = some (.slice e)) (he : TEl P e sz by') (hx : ev E x = some (.slice none 0 0)) (hy : ev E y = some (.slice ao 0 c')) (k : K (.slice none 0 0) M) :
    Wr P n D X w0 E M (.call ⟨.builtin .append, #[x, y], #[t, t]⟩) tt K := fun a w s d pos af g => by
  obtain ⟨i, z, hi, hz, hsz, hby, hzc⟩ := he
  have hfc : (Builtin.firstCells i.size 0 (.slice ao 0 c')).run P w = .ok #[] w := by
    cases ao with
    | none => simp [Builtin.firstCells]
    | some ad => simp [Builtin.firstCells, loadCells, loadCellsFrom]
  refine ⟨_, w, M, ?_, s.2, k⟩
  simp [execOp, resolve, invoke, builtin, s.1.ev hx, s.1.ev hy, Builtin.append_, run_underlying ht, sizeOf, typeInfo, hi, Builtin.lenOf, hfc]

/-- 'copy' into a block of the call's own (elements of one cell). -/
theorem W_copy {t t' e tt' : Nat} {x y : Operand} {b o l c l' c' tot : Nat} {xs ys : List Value} {ao : Option Addr} {M1 : List Blk} {K : Value → List Blk → Prop} {bt : TypeId}
    (ht : P.underlying t = some (.slice e)) (he : (P.info? e).map (·.size) = some 1) (hx : ev E x = some (.slice (some ⟨b, o, none⟩) l c)) (hy : ev E y = some (.slice ao l' c'))
    (hr : Rem ⟨b, bt, tot, xs, (0, 0)⟩ M M1) (hn : ys.length = Nat.min l' l) (hs : ∀ w, SL X M w0 w → SlAt w ao ys) (h1 : ys.all Value.oneCell' = true) (hfit : o + ys.length ≤ xs.length)
    (k : K (.int .i64 (ys.length : Int)) (⟨b, bt, tot, put xs o ys, (0, 0)⟩ :: M1)) :
    Wr P n D X w0 E M (.call ⟨.builtin .copy, #[x, y], #[t, t']⟩) tt' K := fun a w s d pos af g => by
  have hsl := hs w s.2
  obtain ⟨w', hst, hsl'⟩ := s.2.write hr rfl (o := o) (ys := ys) hfit (fun v hv => List.all_eq_true.1 h1 v hv) P
  have hfc : (Builtin.firstCells 1 ys.length (.slice ao l' c')).run P w = .ok ys.toArray w := by
    cases ao with
    | none =>
      have : ys = [] := by
        by_cases h : ys = []
        · exact h
        · have := hsl.addr h; simp at this
      subst this
      simp [Builtin.firstCells]
    | some ad =>
      refine run_firstCells_some (P := P) w 1 ys.length ad l' c' ys (by simp) (fun j u hu => ?_)
      have hne : ys ≠ [] := fun e => by rw [e] at hu; simp at hu
      have ha := hsl.addr hne
      injection ha with ha
      have := hsl.cells j u hu
      rw [ha, addr_add]
      simpa [adb, ado] using this
  refine ⟨_, w', _, ?_, hsl', k⟩
  have hn' : Nat.min l' l = ys.length := hn.symm
  simp [execOp, resolve, invoke, builtin, s.1.ev hx, s.1.ev hy, Builtin.copy_, run_underlying ht, Builtin.lenOf, hn', run_sizeOf he, hfc, hst, goInt]
/-- '[]byte("constant")' behind its making: the block bears a mark. -/
theorem W_mark {t e : Nat} {x : Operand} {b l c tot : Nat} {xs : List Value} {bt : TypeId} {M1 : List Blk} {K : Value → List Blk → Prop} (ht : P.underlying t = some (.slice e)) (he : P.underlying e = some (.int .u8))
    (hx : ev E x = some (.slice (some ⟨b, 0, none⟩) l c)) (hr : Rem ⟨b, bt, tot, xs, (0, 0)⟩ M M1) (k : K (.slice (some ⟨b, 0, none⟩) l c) (⟨b, bt, tot, xs, (tot, tot + 1)⟩ :: M1)) :
    Wr P n D X w0 E M (.convert t t x) tt K := fun a w s d pos af g => by
  have sp := s.2.perm hr.perm
  have hk := sp.mem ⟨b, bt, tot, xs, (0, 0)⟩ (List.mem_cons_self)
  obtain ⟨cur, hc, hcs, hcl, htk⟩ := hk.ex
  simp only at hc hcs hcl htk
  have hlt : b < w.heap.size := hk.lt
  have hsh : w.shape? b = some (bt, tot) := by simp [World.shape?, hc, hcs]
  have hrun : (convert t t (.slice (some ⟨b, 0, none⟩) l c)).run P w = .ok (.slice (some ⟨b, 0, none⟩) l c) (w.freeze ⟨b, tot, none⟩ 1) := by
    simp [convert, run_underlying ht, run_underlying he, markStringish, hsh]
  have hoth : ∀ j, j ≠ b → (w.freeze ⟨b, tot, none⟩ 1).heap[j]? = w.heap[j]? := fun j hj => by
    simp [World.freeze, Array.getElem?_modify, Ne.symm hj]
  have hnew : (w.freeze ⟨b, tot, none⟩ 1).heap[b]? = some (.cells cur bt (tot, tot + 1)) := by
    simp [World.freeze, Array.getElem?_modify, hc]
  have hnd := sp.nodup
  simp only [List.map_cons, List.nodup_cons] at hnd
  refine ⟨_, w.freeze ⟨b, tot, none⟩ 1, _, ?_, ⟨?_, ?_, ?_, ?_, fun j hj hX => ?_, by simpa using hnd, fun j hj => ?_, fun j hj => ?_⟩, k⟩
  · simp only [execOp, s.1.ev hx]
    rw [Sem.run_bind, hrun]
    rfl
  · simpa [World.freeze] using s.2.os
  · simpa [World.freeze] using s.2.tape
  · simpa [World.freeze] using s.2.output
  · simpa [World.freeze] using s.2.size
  · rw [hoth j fun e => ?_]
    · exact s.2.same j hj hX
    · subst e
      rcases sp.own ⟨j, _, _, _, _⟩ (List.mem_cons_self) with h2 | h2
      · exact hX h2
      · simp only at h2; omega
  · rcases List.mem_cons.1 hj with rfl | hj
    · exact sp.own ⟨b, bt, tot, xs, (0, 0)⟩ (List.mem_cons_self)
    · exact sp.own j (List.mem_cons_of_mem _ hj)
  · rcases List.mem_cons.1 hj with rfl | hj
    · exact ⟨cur, hnew, hcs, hcl, htk⟩
    · exact (sp.mem j (List.mem_cons_of_mem _ hj)).of_same (hoth _ fun e => hnd.1 (e ▸ List.mem_map_of_mem hj))
end
end Go.Sl

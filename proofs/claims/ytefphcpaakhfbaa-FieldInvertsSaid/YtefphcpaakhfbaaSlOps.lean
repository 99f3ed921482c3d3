/-
  The logic's rules, one an operation: what yields a value and leaves the world as it is (Yl), what works on blocks (Wr), stores (Sr).
-/
import Derived.Test.YtefphcpaakhfbaaSl
namespace Go.Sl
open Go Go.RowKit

/-! ## Cells -/
def CellsAt (w : World) (b o : Nat) (xs : List Value) : Prop := ∀ (j : Nat) v, xs[j]? = some v → w.cell? ⟨b, o + j, none⟩ = some v
def adb : Option Addr → Nat
  | some a => a.block
  | none => 0
def ado : Option Addr → Nat
  | some a => a.off
  | none => 0
/-- What lies from a slice's address on: the cells xs (nothing is said of the address where there is none). -/
structure SlAt (w : World) (ao : Option Addr) (xs : List Value) : Prop where
  addr : xs ≠ [] → ao = some ⟨adb ao, ado ao, none⟩
  cells : CellsAt w (adb ao) (ado ao) xs

theorem addr_add (b o n : Nat) : (⟨b, o, none⟩ : Addr).add n = ⟨b, o + n, none⟩ := by unfold Addr.add; split <;> simp_all

theorem Blk.In.cells {k : Blk} {w : World} (h : k.In w) : CellsAt w k.b 0 k.xs := by
  obtain ⟨cur, hc, hs, hl, ht⟩ := h.ex
  intro j v hv
  rw [← ht, List.getElem?_take] at hv
  split at hv
  · simp only [World.cell?, hc, Nat.zero_add]
    simpa using hv
  · cases hv
theorem CellsAt.sub {w : World} {b o : Nat} {xs : List Value} (h : CellsAt w b o xs) (i m : Nat) : CellsAt w b (o + i) ((xs.drop i).take m) := by
  intro j v hv
  rw [List.getElem?_take] at hv
  split at hv
  · rw [List.getElem?_drop] at hv
    have := h (i + j) v hv
    rwa [← Nat.add_assoc] at this
  · cases hv
theorem CellsAt.drop {w : World} {b o : Nat} {xs : List Value} (h : CellsAt w b o xs) (i : Nat) : CellsAt w b (o + i) (xs.drop i) := by
  intro j v hv
  rw [List.getElem?_drop] at hv
  have := h (i + j) v hv
  rwa [← Nat.add_assoc] at this
theorem CellsAt.take {w : World} {b o : Nat} {xs : List Value} (h : CellsAt w b o xs) (m : Nat) : CellsAt w b o (xs.take m) := by
  intro j v hv
  rw [List.getElem?_take] at hv
  split at hv
  · exact h j v hv
  · cases hv
theorem CellsAt.lt {w : World} {b o : Nat} {xs : List Value} (h : CellsAt w b o xs) (hne : xs ≠ []) : b < w.heap.size := by
  cases xs with
  | nil => exact absurd rfl hne
  | cons v r => exact World.block_lt_of_cell? w _ (h 0 v rfl)
theorem CellsAt.keep {X : List Nat} {M : List Blk} {w0 w : World} (s : SL X M w0 w) {b o : Nat} (hX : b ∉ X) {xs : List Value} (h : CellsAt w0 b o xs) : CellsAt w b o xs := by
  intro j v hv
  have hc := h j v hv
  have hlt := World.block_lt_of_cell? w0 _ hc
  rw [World.cell?_of_block (w := w0) (w' := w) (a := ⟨b, o + j, none⟩) (s.same b hlt hX)]
  exact hc
theorem SL.cells {X : List Nat} {M : List Blk} {w0 w : World} (s : SL X M w0 w) {k : Blk} (hk : k ∈ M) : CellsAt w k.b 0 k.xs := (s.mem k hk).cells
theorem SlAt.keep {X : List Nat} {M : List Blk} {w0 w : World} (s : SL X M w0 w) {ao : Option Addr} (hX : adb ao ∉ X) {xs : List Value} (h : SlAt w0 ao xs) : SlAt w ao xs :=
  ⟨h.addr, h.cells.keep s hX⟩
theorem SlAt.nil (w : World) (ao : Option Addr) : SlAt w ao [] := ⟨fun h => absurd rfl h, fun j v h => by simp at h⟩
theorem SlAt.mk' {w : World} {b o : Nat} {xs : List Value} (h : CellsAt w b o xs) : SlAt w (some ⟨b, o, none⟩) xs := ⟨fun _ => rfl, h⟩
theorem SlAt.take {w : World} {ao : Option Addr} {xs : List Value} (h : SlAt w ao xs) (m : Nat) : SlAt w ao (xs.take m) :=
  ⟨fun hne => h.addr (fun e => hne (by rw [e]; simp)), h.cells.take m⟩
/-- The address of 'x[lo:]'. -/
def subA (ao : Option Addr) (m l s : Nat) : Option Addr := if m = l then ao else ao.map (·.add (l * s))
theorem SlAt.drop {w : World} {ao : Option Addr} {xs : List Value} (h : SlAt w ao xs) (m l s : Nat) (hm : xs.length ≤ m * s) : SlAt w (subA ao m l s) (xs.drop (l * s)) := by
  unfold subA
  split
  · rename_i e
    subst e
    rw [List.drop_eq_nil_of_le hm]
    exact SlAt.nil _ _
  · by_cases hne : xs.drop (l * s) = []
    · rw [hne]; exact SlAt.nil _ _
    · have ha := h.addr (fun e => hne (by rw [e]; simp))
      have hc := h.cells.drop (l * s)
      rw [ha]
      simp only [Option.map_some, addr_add]
      exact SlAt.mk' hc

/-! ## Types -/
def aggD : TypeDesc → Bool
  | .struct _ | .array _ _ => true
  | _ => false
def TScal (P : Program) (t : TypeId) : Prop := ∃ d, P.underlying t = some d ∧ aggD d = false ∧ (P.info? t).map (·.size) = some 1
def TAgg (P : Program) (t : TypeId) (s : Nat) : Prop := ∃ d, P.underlying t = some d ∧ aggD d = true ∧ (P.info? t).map (·.size) = some s
def TZero (P : Program) (t : TypeId) (xs : List Value) : Prop := (P.info? t).map (fun i => (i.zero.map (·.cells.toList))) = some (some xs)

section
variable {P : Program}
theorem run_sizeOf {t : TypeId} {s : Nat} (h : (P.info? t).map (·.size) = some s) (w : World) : (sizeOf t).run P w = .ok s w := by
  cases hq : P.info? t with
  | none => simp [hq] at h
  | some i => simp [hq] at h; simp [sizeOf, typeInfo, hq, h]
theorem run_isAgg' {t : TypeId} {d : TypeDesc} (h : P.underlying t = some d) (w : World) : (isAgg t).run P w = .ok (aggD d) w := by
  unfold isAgg
  rw [Sem.run_bind, run_underlying h w]
  cases d <;> rfl
theorem run_zero {t : TypeId} {xs : List Value} (h : TZero P t xs) (w : World) : ∃ z, z.cells = xs.toArray ∧ (zeroValue t).run P w = .ok z w := by
  unfold TZero at h
  cases hq : P.info? t with
  | none => simp [hq] at h
  | some i =>
    simp only [hq, Option.map_some, Option.some.injEq] at h
    cases hz : i.zero with
    | none => simp [hz] at h
    | some z =>
      simp only [hz, Option.map_some, Option.some.injEq] at h
      exact ⟨z, by rw [← h], by simp [zeroValue, typeInfo, hq, hz]⟩
theorem run_loadCells_at {w : World} {b o : Nat} {xs : List Value} (h : CellsAt w b o xs) : (loadCells ⟨b, o, none⟩ xs.length).run P w = .ok xs.toArray w :=
  run_loadCells_list (P := P) w _ xs fun j v hv => by rw [addr_add]; exact h j v hv
theorem run_loadVar_ag {t : TypeId} {w : World} {b o : Nat} {xs : List Value} (ht : TAgg P t xs.length) (h : CellsAt w b o xs) : (loadVar t ⟨b, o, none⟩).run P w = .ok (.agg xs.toArray) w := by
  obtain ⟨d, hu, hd, hs⟩ := ht
  simp [loadVar, run_isAgg' hu, hd, run_sizeOf hs, run_loadCells_at h]
theorem run_loadVar_sc {t : TypeId} {w : World} {a : Addr} {v : Value} (ht : TScal P t) (h : w.cell? a = some v) : (loadVar t a).run P w = .ok v w := by
  obtain ⟨d, hu, hd, _⟩ := ht
  simp [loadVar, run_isAgg' hu, hd, h]
end

/-- A row's cells from 'o' on written over. -/
def put (xs : List Value) (o : Nat) (ys : List Value) : List Value := xs.take o ++ ys ++ xs.drop (o + ys.length)

theorem put_length {xs : List Value} {o : Nat} {ys : List Value} (h : o + ys.length ≤ xs.length) : (put xs o ys).length = xs.length := by simp [put]; omega
theorem put_take (A B : List Value) (o : Nat) (ys : List Value) (h : o + ys.length ≤ A.length) :
    ((A ++ B).take o ++ ys ++ (A ++ B).drop (o + ys.length)).take A.length = put A o ys := by
  have e1 : (A ++ B).take o = A.take o := List.take_append_of_le_length (by omega)
  have e2 : (A ++ B).drop (o + ys.length) = A.drop (o + ys.length) ++ B := List.drop_append_of_le_length h
  have e3 : A.take o ++ ys ++ (A.drop (o + ys.length) ++ B) = put A o ys ++ B := by simp [put]
  rw [e1, e2, e3]
  exact List.take_left' (put_length h)

theorem Blk.In.write {k : Blk} {w : World} (o : Nat) (ys : List Value) (hfit : o + ys.length ≤ k.xs.length) (cur : Array Value)
    (hc : w.heap[k.b]? = some (.cells cur k.t k.fr)) (hsz : cur.size = k.tot) (hl : k.xs.length ≤ k.tot) (htake : cur.toList.take k.xs.length = k.xs) :
    ({ k with xs := put k.xs o ys } : Blk).In (w.setRow k.b (cur.toList.take o ++ ys ++ cur.toList.drop (o + ys.length)).toArray) := by
  have hlen := put_length hfit
  have hcl : cur.toList.length = k.tot := by simpa using hsz
  refine ⟨_, setRow_heap w k.b cur _ k.t k.fr hc, ?_, by simpa [hlen] using hl, ?_⟩
  · simp; omega
  · have hsplit : cur.toList = k.xs ++ cur.toList.drop k.xs.length := by
      conv => lhs; rw [← List.take_append_drop k.xs.length cur.toList, htake]
    show (cur.toList.take o ++ ys ++ cur.toList.drop (o + ys.length)).take (put k.xs o ys).length = put k.xs o ys
    rw [hlen, hsplit]
    exact put_take _ _ _ _ hfit

theorem SL.write {X : List Nat} {M M1 : List Blk} {w0 w : World} (s : SL X M w0 w) {k : Blk} (hr : Rem k M M1) (hfr : k.fr = (0, 0)) {o : Nat} {ys : List Value}
    (hfit : o + ys.length ≤ k.xs.length) (h1 : ∀ v ∈ ys, v.oneCell' = true) (P : Program) :
    ∃ w', (storeCells ⟨k.b, o, none⟩ ys).run P w = .ok () w' ∧ SL X ({ k with xs := put k.xs o ys } :: M1) w0 w' := by
  have s' := s.perm hr.perm
  have hk := s'.mem k (List.mem_cons_self)
  obtain ⟨cur, hc, hsz, hl, ht⟩ := hk.ex
  have hc0 := hc
  rw [hfr] at hc0
  have hrun := run_storeCells_at P k.b o k.t ys 0 cur w hc0 (by omega) h1
  simp only [Nat.add_zero] at hrun
  refine ⟨_, hrun, ?_⟩
  have hoth : ∀ j, j ≠ k.b → (w.setRow k.b (cur.toList.take o ++ ys ++ cur.toList.drop (o + ys.length)).toArray).heap[j]? = w.heap[j]? := fun j hj => setRow_other w k.b j _ hj
  have hnd := s'.nodup
  simp only [List.map_cons, List.nodup_cons] at hnd
  refine ⟨s.os, s.tape, s.output, by simpa using s.size, fun j hj hX => ?_, by simpa using hnd, fun j hj => ?_, fun j hj => ?_⟩
  · rw [hoth j fun e => ?_]
    · exact s.same j hj hX
    · subst e
      rcases s'.own k (List.mem_cons_self) with h2 | h2
      · exact hX h2
      · omega
  · rcases List.mem_cons.1 hj with rfl | hj
    · exact s'.own k (List.mem_cons_self)
    · exact s'.own j (List.mem_cons_of_mem _ hj)
  · rcases List.mem_cons.1 hj with rfl | hj
    · exact Blk.In.write o ys hfit cur hc hsz hl ht
    · exact (s'.mem j (List.mem_cons_of_mem _ hj)).of_same (hoth _ fun e => hnd.1 (e ▸ List.mem_map_of_mem hj))

theorem SL.alloc {X : List Nat} {M : List Blk} {w0 w : World} (s : SL X M w0 w) (t : TypeId) (cur : Array Value) (xs : List Value) (tot : Nat) (htot : cur.size = tot) (hl : xs.length ≤ tot)
    (ht : cur.toList.take xs.length = xs) : SL X ({ b := w.heap.size, t := t, tot := tot, xs := xs } :: M) w0 { w with heap := w.heap.push (.cells cur t) } := by
  have hold : ∀ k, k < w.heap.size → (w.heap.push (Obj.cells cur t))[k]? = w.heap[k]? := fun k hk => by rw [Array.getElem?_push, if_neg (Nat.ne_of_lt hk)]
  refine ⟨s.os, s.tape, s.output, by simp; have := s.size; omega, fun k hk hX => ?_, ?_, fun k hk => ?_, fun k hk => ?_⟩
  · exact (hold k (Nat.lt_of_lt_of_le hk s.size)).trans (s.same k hk hX)
  · simp only [List.map_cons, List.nodup_cons]
    refine ⟨fun h => ?_, s.nodup⟩
    obtain ⟨k, hk, e⟩ := List.mem_map.1 h
    have := (s.mem k hk).lt
    omega
  · rcases List.mem_cons.1 hk with rfl | hk
    · exact .inr s.size
    · exact s.own k hk
  · rcases List.mem_cons.1 hk with rfl | hk
    · exact ⟨cur, by simp, htot, hl, ht⟩
    · exact (s.mem k hk).of_same (hold _ (s.mem k hk).lt)
end Go.Sl

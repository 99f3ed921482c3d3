/-
  The logic's rules for '==' between arrays and structs.
-/
import Derived.Test.YtefphcpaakhfbaaSlA
import Derived.ChangeKeysEq
import Derived.Laws.Cover3
namespace Go.Sl
open Go Go.RowKit

section
variable {P : Program} {n : Nat} {D : List Deferred} {X : List Nat} {w0 : World} {E : Env} {M : List Blk} {tt : TypeId}

theorem run_part_sc {t : TypeId} {cs : Array Value} {off : Nat} {v : Value} (ht : TScal P t) (hv : cs[off]? = some v) (w : World) : (part t cs off).run P w = .ok v w := by
  obtain ⟨d, hu, hd, _⟩ := ht
  simp [part, run_isAgg' hu, hd, hv]
theorem run_part_ag {t s : Nat} {cs : Array Value} {off : Nat} (ht : TAgg P t s) (w : World) : (part t cs off).run P w = .ok (.agg (cs.extract off (off + s))) w := by
  obtain ⟨d, hu, hd, hs⟩ := ht
  simp [part, run_isAgg' hu, hd, run_sizeOf hs]
theorem eqFields_cons {d : Nat} {xs ys : Array Value} {f : Field} {fs : List Field} {a b : Value} {r r' : Bool} {w : World} (hn : f.name ≠ "_") (h1 : (part f.type xs f.offset).run P w = .ok a w) (h2 : (part f.type ys f.offset).run P w = .ok b w)
    (h : (Op.equalIn d f.type a b).run P w = .ok r w) (hr : (Op.eqFields d xs ys fs).run P w = .ok r' w) : (Op.eqFields d xs ys (f :: fs)).run P w = .ok (r && r') w := by
  simp only [Op.eqFields, hn, ne_eq, not_false_eq_true, if_true, Sem.run_bind, h1, h2, h, Result.andThen_ok]
  cases r <;> simp [hr]
theorem eqFields_nil {d : Nat} {xs ys : Array Value} {w : World} : (Op.eqFields d xs ys []).run P w = .ok true w := by simp [Op.eqFields]
theorem run_eqItems_int {e : TypeId} {k k' : IntKind} (he : P.underlying e = some (.int k)) (hs : TScal P e) (d : Nat) (xs ys : List Int) (w : World) : ∀ (is : List Nat), (∀ i ∈ is, i < xs.length ∧ i < ys.length) →
    (Op.eqItems (d + 1) e 1 (xs.map (Value.int k')).toArray (ys.map (Value.int k')).toArray is).run P w = .ok (decide (∀ i ∈ is, xs[i]? = ys[i]?)) w
  | [], _ => by simp [Op.eqItems]
  | i :: is, h => by
    have hi := h i (List.mem_cons_self)
    have ih := run_eqItems_int (k' := k') he hs d xs ys w is (fun j hj => h j (List.mem_cons_of_mem _ hj))
    have p1 : (part e (xs.map (Value.int k')).toArray (i * 1)).run P w = .ok (.int k' xs[i]) w := run_part_sc hs (by simp [hi.1]) w
    have p2 : (part e (ys.map (Value.int k')).toArray (i * 1)).run P w = .ok (.int k' ys[i]) w := run_part_sc hs (by simp [hi.2]) w
    have p3 := run_equalIn_int (P := P) w d e k' k xs[i] ys[i] he
    simp only [Op.eqItems, Sem.run_bind, p1, p2, p3, Result.andThen_ok]
    by_cases hx : xs[i] = ys[i]
    · simp [hx, ih, hi.1, hi.2]
    · have : ¬ (xs[i] == ys[i]) = true := by simpa using hx
      simp [this, hx, hi.1, hi.2]
theorem range_eq (xs ys : List Int) (len : Nat) (h1 : xs.length = len) (h2 : ys.length = len) : (∀ i ∈ List.range len, xs[i]? = ys[i]?) ↔ xs = ys := by
  constructor
  · intro h
    apply List.ext_getElem?
    intro i
    by_cases hi : i < len
    · exact h i (by simpa using hi)
    · rw [List.getElem?_eq_none (by omega), List.getElem?_eq_none (by omega)]
  · rintro rfl i _; rfl
/-- An array of integers. -/
def TInts (P : Program) (t : TypeId) (len : Nat) (e : TypeId) : Prop := P.underlying t = some (.array len e) ∧ (∃ k, P.underlying e = some (.int k)) ∧ TScal P e
theorem TInts.cellsOf {t len e : Nat} (h : TInts P t len e) : P.cellsOf e = 1 := by
  obtain ⟨_, _, d, _, _, hs⟩ := h
  simp [Program.cellsOf, hs]
theorem run_equal_ints {t len e : Nat} {k' : IntKind} (h : TInts P t len e) (d : Nat) (xs ys : List Int) (h1 : xs.length = len) (h2 : ys.length = len) (w : World) :
    (Op.equalIn (d + 2) t (.agg (xs.map (Value.int k')).toArray) (.agg (ys.map (Value.int k')).toArray)).run P w = .ok (decide (xs = ys)) w := by
  have hc := h.cellsOf
  obtain ⟨hu, ⟨k, he⟩, hs⟩ := h
  have hs' := hs
  obtain ⟨_, _, _, hsz⟩ := hs'
  cases hi : P.info? e with
  | none => simp [hi] at hsz
  | some i =>
    rw [run_equalIn_array w (d + 1) _ _ hu hi, hc, run_eqItems_int (k' := k') he hs d xs ys w (List.range len) (fun i hi => by simp at hi; omega)]
    simp only [range_eq xs ys len h1 h2]
theorem eqGuard_arr {t : TypeId} (hg : P.eqGuardType P.depth t = false) (op : BinOp) (x y : Operand) (xs ys : Array Value) (w : World) : (eqGuard op t x y (.agg xs) (.agg ys)).run P w = .ok () w :=
  run_eqGuard_agg w op t x y xs ys hg
theorem B_ints (l : List UInt8) : B l = (l.map fun b => (b.toNat : Int)).map (Value.int .u8) := by simp [B, bv]
theorem ints_inj (l m : List UInt8) : ((l.map fun b => (b.toNat : Int)) = m.map fun b => (b.toNat : Int)) ↔ l = m := by
  constructor
  · intro h
    refine List.map_inj_right (f := fun b : UInt8 => (b.toNat : Int)) (fun x y hxy => ?_) |>.1 h
    exact UInt8.toNat_inj.1 (by have h : (x.toNat : Int) = y.toNat := hxy; omega)
  · rintro rfl; rfl
/-- A comparison of two aggregates of which the answer is known. -/
theorem Y_eqAgg {op : BinOp} {t ty : TypeId} {x y : Operand} {xs ys : List Value} {b : Bool} (hg : P.eqGuardType P.depth t = false) (hx : ev E x = some (.agg xs.toArray)) (hy : ev E y = some (.agg ys.toArray))
    (h : ∀ w, (Op.equalIn 10000 t (.agg xs.toArray) (.agg ys.toArray)).run P w = .ok b w) (hop : op = .eql ∨ op = .neq) :
    Yl P n D X w0 E M (.binOp op t x y ty) tt (.bool (match op with | .eql => b | _ => !b)) := fun ac w s d pos af g => by
  simp only [execOp, s.1.ev hx, s.1.ev hy]
  have hE : (Op.equal t (.agg xs.toArray) (.agg ys.toArray)).run P w = .ok b w := h w
  rcases hop with rfl | rfl
  · rw [Sem.run_bind, Sem.run_bind, eqGuard_arr hg, Result.andThen_ok]; simp [binOp, hE]
  · rw [Sem.run_bind, Sem.run_bind, eqGuard_arr hg, Result.andThen_ok]; simp [binOp, hE]
/-- Arrays of bytes. -/
theorem Y_eqB {t ty len e : Nat} {x y : Operand} {l m : List UInt8} (hg : P.eqGuardType P.depth t = false) (h : TInts P t len e) (hx : ev E x = some (.agg (B l).toArray)) (hy : ev E y = some (.agg (B m).toArray)) (h1 : l.length = len) (h2 : m.length = len) :
    Yl P n D X w0 E M (.binOp .eql t x y ty) tt (.bool (decide (l = m))) :=
  Y_eqAgg (op := .eql) hg hx hy (fun w => by
    rw [B_ints, B_ints, run_equal_ints (d := 9998) h _ _ (by simpa using h1) (by simpa using h2) w]
    simp only [ints_inj]) (.inl rfl)
theorem Y_neqB {t ty len e : Nat} {x y : Operand} {l m : List UInt8} (hg : P.eqGuardType P.depth t = false) (h : TInts P t len e) (hx : ev E x = some (.agg (B l).toArray)) (hy : ev E y = some (.agg (B m).toArray)) (h1 : l.length = len) (h2 : m.length = len) :
    Yl P n D X w0 E M (.binOp .neq t x y ty) tt (.bool (!decide (l = m))) :=
  Y_eqAgg (op := .neq) hg hx hy (fun w => by
    rw [B_ints, B_ints, run_equal_ints (d := 9998) h _ _ (by simpa using h1) (by simpa using h2) w]
    simp only [ints_inj]) (.inr rfl)
/-- A slice against nil. -/
theorem Y_eqNil {t e ty : Nat} {x y : Operand} {ao : Option Addr} {l c : Nat} (ht : P.underlying t = some (.slice e)) (hx : ev E x = some (.slice ao l c)) (hy : ev E y = some (.slice none 0 0)) :
    Yl P n D X w0 E M (.binOp .eql t x y ty) tt (.bool ao.isNone) := fun ac w s d pos af g => by
  simp only [execOp, s.1.ev hx, s.1.ev hy]
  have hE : (Op.equal t (.slice ao l c) (.slice none 0 0)).run P w = .ok ao.isNone w := run_equal_slice_nil w t e ao l c ht
  simp [eqGuard, binOp, hE]
end
end Go.Sl

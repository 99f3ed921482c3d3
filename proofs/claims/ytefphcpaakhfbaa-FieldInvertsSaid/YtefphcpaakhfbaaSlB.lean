/-
  The logic's rules for 'build', 'buildSlice', a slice's array.
-/
import Derived.Test.YtefphcpaakhfbaaSlE
import Derived.Great.BuildSlice
namespace Go.Sl
open Go Go.RowKit

def idx : List Value → Nat → List (Nat × Value)
  | [], _ => []
  | v :: r, i => (i, v) :: idx r (i + 1)
theorem cells_one {v : Value} (h : v.oneCell' = true) : v.cells = #[v] := by cases v <;> simp_all [Value.cells, Value.oneCell']
theorem foldl_set (off : Nat) : ∀ (ys : List Value) (k : Nat) (A Z C : List Value), Z.length = ys.length → A.length = off + k →
    (ys.zipIdx k).foldl (fun (cs : Array Value) (x : Value × Nat) => cs.setIfInBounds (off + x.2) x.1) (A ++ (Z ++ C)).toArray = (A ++ (ys ++ C)).toArray
  | [], k, A, Z, C, hz, _ => by
    have : Z = [] := List.eq_nil_of_length_eq_zero (by simpa using hz)
    subst this; simp
  | y :: ys, k, A, [], C, hz, _ => by simp at hz
  | y :: ys, k, A, z :: Z, C, hz, ha => by
    simp only [List.zipIdx_cons, List.foldl_cons, ← ha, List.cons_append]
    have e : (A ++ z :: (Z ++ C)).toArray.setIfInBounds A.length y = ((A ++ [y]) ++ (Z ++ C)).toArray := by
      simp
    rw [e, foldl_set off ys (k + 1) (A ++ [y]) Z C (by simpa using hz) (by simp; omega)]
    simp
theorem fill_step {place : Nat → Option (Nat × Nat)} {cells ys : List Value} {i off : Nat} {v : Value} {rest : List (Nat × Value)} (hp : place i = some (off, ys.length)) (hv : v.cells = ys.toArray) (hfit : off + ys.length ≤ cells.length) :
    Instr.fill place cells.toArray ((i, v) :: rest) = Instr.fill place (put cells off ys).toArray rest := by
  have e1 : cells = cells.take off ++ ((cells.drop off).take ys.length ++ cells.drop (off + ys.length)) := by
    rw [← List.drop_drop, List.take_append_drop, List.take_append_drop]
  have h2 := foldl_set off ys 0 (cells.take off) ((cells.drop off).take ys.length) (cells.drop (off + ys.length)) (by simp; omega) (by simp; omega)
  rw [← e1] at h2
  have hn : ¬ off + ys.length > cells.length := by omega
  have h3 : (Array.foldl (fun cs x => Array.setIfInBounds cs (off + x.2) x.1) cells.toArray ys.toArray.zipIdx) = (put cells off ys).toArray := by
    rw [← Array.foldl_toList]
    simp only [Array.toList_zipIdx]
    rw [h2]; simp [put]
  simp only [Instr.fill, hp, hv, List.size_toArray, ne_eq, not_true_eq_false, decide_false, Bool.false_or, hn, Bool.false_eq_true, if_false]
  congr 1
theorem fill_idx {place : Nat → Option (Nat × Nat)} (hp : ∀ i, place i = some (i * 1, 1)) : ∀ (vs pre post : List Value), vs.all Value.oneCell' = true → post.length = vs.length → Instr.fill place (pre ++ post).toArray (idx vs pre.length) = some (pre ++ vs).toArray
  | [], pre, post, _, h => by
    have : post = [] := List.eq_nil_of_length_eq_zero (by simpa using h)
    subst this; simp [idx, Instr.fill]
  | v :: vs, pre, [], _, h => by simp at h
  | v :: vs, pre, p :: post, h1, h => by
    simp only [List.all_cons, Bool.and_eq_true] at h1
    simp only [idx]
    rw [fill_step (ys := [v]) (off := pre.length) (by rw [hp]; simp) (cells_one h1.1) (by simp)]
    have e : put (pre ++ p :: post) pre.length [v] = (pre ++ [v]) ++ post := by simp [put]
    have := fill_idx hp vs (pre ++ [v]) post h1.2 (by simpa using h)
    rw [e]
    simp only [List.length_append, List.length_singleton] at this
    rw [this]; simp
section
variable {P : Program} {n : Nat} {D : List Deferred} {X : List Nat} {w0 : World} {E : Env} {M : List Blk} {tt : TypeId}
/-- A slice literal of elements of one cell, each given. -/
theorem W_bs {t e by' len : Nat} {ps : Array (Nat × Operand)} (vs : List Value) {K : Value → List Blk → Prop} (ht : P.underlying t = some (.slice e)) (he : TEl P e 1 by') (h1 : vs.all Value.oneCell' = true) (hne : vs ≠ []) (hlen : vs.length ≤ 100000) (hl : vs.length = len)
    (hp : evP E ps.toList = some (idx vs 0)) (k : ∀ b, K (.slice (some ⟨b, 0, none⟩) len len) (⟨b, e, len * 1, vs, (0, 0)⟩ :: M)) : Wr P n D X w0 E M (.buildSlice t len ps) tt K := by
  obtain ⟨i, z, hi, hz, hsz, hby, hzc⟩ := he
  have hpos : 0 < vs.length := List.length_pos_iff.2 hne
  subst hl
  refine W_buildSlice (e := e) (xs := vs) hp (fun w => ?_) (fun b => by have := k b; simpa using this)
  have hf : Instr.fill (fun j => some (j * i.size, i.size)) ((Array.range (vs.length * i.size)).map (z.cells[· % z.cells.size]!)) (idx vs 0).toArray.toList = some vs.toArray := by
    have h := fill_idx (place := fun j => some (j * i.size, i.size)) (by rw [hsz]; intro; rfl) vs [] (((Array.range (vs.length * i.size)).map (z.cells[· % z.cells.size]!)).toList) h1 (by simp [hsz])
    simp only [List.nil_append, Array.toArray_toList, List.length_nil] at h
    exact h
  rw [run_buildSlice w t e vs.length _ vs.toArray i z ht hi hz (by rw [hsz]; omega) (by rw [hsz]; omega) hf]
  rfl
/-- A slice literal of one struct. -/
theorem W_bs1 {t e sz by' : Nat} {x : Operand} {xs : List Value} {K : Value → List Blk → Prop} (ht : P.underlying t = some (.slice e)) (he : TEl P e sz by') (hx : ev E x = some (.agg xs.toArray)) (hl : xs.length = sz) (hpos : 0 < sz) (hs : sz ≤ 100000)
    (k : ∀ b, K (.slice (some ⟨b, 0, none⟩) 1 1) (⟨b, e, 1 * sz, xs, (0, 0)⟩ :: M)) : Wr P n D X w0 E M (.buildSlice t 1 #[(0, x)]) tt K := by
  obtain ⟨i, z, hi, hz, hsz, hby, hzc⟩ := he
  subst hl
  refine W_buildSlice (vs := [(0, .agg xs.toArray)]) (e := e) (xs := xs) (by simp [evP, hx]) (fun w => ?_) (fun b => by have := k b; simpa using this)
  have hf : Instr.fill (fun j => some (j * i.size, i.size)) ((Array.range (1 * i.size)).map (z.cells[· % z.cells.size]!)) [(0, Value.agg xs.toArray)] = some xs.toArray := by
    have e : ((Array.range (1 * i.size)).map (z.cells[· % z.cells.size]!)) = (((Array.range (1 * i.size)).map (z.cells[· % z.cells.size]!)).toList).toArray := (Array.toArray_toList).symm
    rw [e, fill_step (ys := xs) (off := 0) (by simp [hsz]) (by simp [Value.cells]) (by simp [hsz])]
    simp only [Instr.fill, Option.some.injEq]
    rw [put_all]; simp [hsz]
  rw [run_buildSlice w t e 1 _ xs.toArray i z ht hi hz (by rw [hsz]; omega) (by rw [hsz]; omega) hf]
  rfl
/-- An empty slice literal. -/
theorem W_bs0 {t e sz by' : Nat} {K : Value → List Blk → Prop} (ht : P.underlying t = some (.slice e)) (he : TEl P e sz by')
    (k : ∀ b, K (.slice (some ⟨b, 0, none⟩) 0 0) (⟨b, e, 0 * sz, [], (0, 0)⟩ :: M)) : Wr P n D X w0 E M (.buildSlice t 0 #[]) tt K := by
  obtain ⟨i, z, hi, hz, hsz, hby, hzc⟩ := he
  refine W_buildSlice (vs := []) (e := e) (xs := []) (by simp [evP]) (fun w => ?_) (fun b => by have := k b; simpa using this)
  simp [Instr.buildSlice, run_underlying ht, sizeOf, typeInfo, hi, Instr.fill, newRow]
  congr 2; simp
/-- A slice's array. -/
theorem Y_s2a {t len e l c : Nat} {x : Operand} {ao : Option Addr} (ht : P.underlying t = some (.array len e)) (hx : ev E x = some (.slice ao l c)) (hl : len ≤ l) : Yl P n D X w0 E M (.sliceToArrayPointer t x) tt (.pointer ao) := fun a w s d pos af g => by
  have : ¬ l < len := by omega
  simp [execOp, s.1.ev hx, Instr.arrayAt, run_underlying ht, this]
/-- A slot's bool, decided inside a region that draws its order. -/
theorem GA_bool {Q : Exit → Act → World → Prop} {ops : Array Oper} {tl : List Nat} {fuel : Nat} {listed : Array Bool} (d : Nat) {b : Bool} (hg : Env.get E d = some (.bool b))
    (ht : b = true → GA P n D X w0 Q ops tl fuel listed ((d, .bool true) :: E) M)
    (hf : b = false → GA P n D X w0 Q ops tl fuel listed ((d, .bool false) :: E) M) : GA P n D X w0 Q ops tl fuel listed E M := fun a w s => by
  have hx : ∀ c, b = c → St n D X w0 ((d, .bool c) :: E) M a w := fun c hc => ⟨⟨s.1.size, s.1.defers, fun t v hv => by
    simp only [Env.get] at hv
    cases hb : Nat.beq d t with
    | true =>
      rw [hb] at hv
      have : d = t := Nat.eq_of_beq_eq_true hb
      subst this
      simp at hv
      subst hv
      exact hc ▸ s.1.get d _ hg
    | false => rw [hb] at hv; exact s.1.get t v hv⟩, s.2⟩
  cases b with
  | true => exact ht rfl a w (hx true rfl)
  | false => exact hf rfl a w (hx false rfl)
theorem B_app (l m : List UInt8) : B (l ++ m) = B l ++ B m := by simp [B]
/-- Bytes appended onto a block of the call's own. -/
theorem W_appB {t e : Nat} {x y : Operand} {b c l m c' : Nat} {bs : List UInt8} (ys : List UInt8) {fr : Nat × Nat} {ao : Option Addr} {M1 : List Blk} {K : Value → List Blk → Prop}
    (ht : P.underlying t = some (.slice e)) (he : TEl P e 1 1) (hx : ev E x = some (.slice (some ⟨b, 0, none⟩) l c)) (hy : ev E y = some (.slice ao m c'))
    (hr : Rem ⟨b, e, c * 1, B bs, fr⟩ M M1) (hl : l = bs.length) (hm : ys.length = m) (hfr : fr = (0, 0) ∨ (c = bs.length ∧ 0 < ys.length)) (hs : ∀ w, SL X M w0 w → SlAt w ao (B ys)) (hb : bs.length + ys.length ≤ 140737488355328)
    (k : ∀ b' c', (bs ++ ys).length ≤ c' → K (.slice (some ⟨b', 0, none⟩) (bs ++ ys).length c') (⟨b', e, c' * 1, B (bs ++ ys), (0, 0)⟩ :: M1)) :
    Wr P n D X w0 E M (.call ⟨.builtin .append, #[x, y], #[t, t]⟩) tt K := by
  subst hl; subst hm
  refine W_app (xs := B bs) (ys := B ys) ht he hx hy hr (by rw [len_B, Nat.mul_one]) (by rw [len_B, Nat.mul_one]) hfr hs (all_B _) (by decide) (by omega) (by omega) fun b' c' h => ?_
  have := k b' c' (by simpa using h)
  rwa [List.length_append, B_app] at this
theorem W_appNilB {t e : Nat} {x y : Operand} {m c' : Nat} (ys : List UInt8) {ao : Option Addr} {K : Value → List Blk → Prop}
    (ht : P.underlying t = some (.slice e)) (he : TEl P e 1 1) (hx : ev E x = some (.slice none 0 0)) (hy : ev E y = some (.slice ao m c'))
    (hm : ys.length = m) (hm0 : 0 < ys.length) (hs : ∀ w, SL X M w0 w → SlAt w ao (B ys)) (hb : ys.length ≤ 140737488355328)
    (k : ∀ b' c', ys.length ≤ c' → K (.slice (some ⟨b', 0, none⟩) ys.length c') (⟨b', e, c' * 1, B ys, (0, 0)⟩ :: M)) :
    Wr P n D X w0 E M (.call ⟨.builtin .append, #[x, y], #[t, t]⟩) tt K := by
  subst hm
  exact W_appNil (ys := B ys) ht he hx hy (by rw [len_B, Nat.mul_one]) hm0 hs (by decide) (by omega) (by omega) k
end
theorem _root_.Go.Sl.Pick.rfl' (M : List Blk) : Pick M M [] := by
  induction M with
  | nil => exact .nil
  | cons k M ih => exact .cons .head ih
theorem _root_.Go.Sl.Pick.skip {k : Blk} {M A R : List Blk} (h : Pick M A R) : Pick (k :: M) A (k :: R) := by
  induction h with
  | nil => exact .nil
  | cons h1 _ ih => exact .cons (.tail h1) ih
theorem _root_.Go.Sl.SL.tail {X : List Nat} {k : Blk} {M : List Blk} {w0 w : World} (s : SL X (k :: M) w0 w) : SL X M w0 w := (s.perm (M' := M ++ [k]) (by simpa using (List.perm_append_comm (l₁ := [k]) (l₂ := M)))).left
end Go.Sl

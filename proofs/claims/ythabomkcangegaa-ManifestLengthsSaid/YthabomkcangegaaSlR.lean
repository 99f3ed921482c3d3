/-
  Rows of records: slices whose elements are structs.
-/
import Derived.Test.YthabomkcangegaaSlC
namespace Go.Sl
open Go Go.RowKit

theorem drop_get {α : Type} {s : Nat} (f : α → List Value) (_ : ∀ a, (f a).length = s) {r : List α} {j : Nat} {k : α} (h : r[j]? = some k) : r.drop j = k :: r.drop (j + 1) := by
  obtain ⟨hlt, rfl⟩ := List.getElem?_eq_some_iff.1 h
  exact List.drop_eq_getElem_cons hlt
section
variable {α : Type} (f : α → List Value) {s : Nat} (hf : ∀ a, (f a).length = s)
def recL (r : List α) : List Value := r.flatMap f
theorem recL_cons (k : α) (r : List α) : recL f (k :: r) = f k ++ recL f r := rfl
theorem recL_append (r t : List α) : recL f (r ++ t) = recL f r ++ recL f t := by simp [recL]
theorem recL_one (k : α) : recL f [k] = f k := by simp [recL]
theorem recL_all (h1 : ∀ a, (f a).all Value.oneCell' = true) (r : List α) : (recL f r).all Value.oneCell' = true := by
  simp only [recL, List.all_flatMap]
  exact List.all_eq_true.2 fun k _ => h1 k
include hf
theorem recL_len (r : List α) : (recL f r).length = r.length * s := by
  induction r with
  | nil => simp [recL]
  | cons k r ih => rw [recL_cons, List.length_append, hf, ih, List.length_cons, Nat.add_mul]; omega
theorem recL_drop : ∀ (r : List α) (j : Nat), (recL f r).drop (j * s) = recL f (r.drop j)
  | [], j => by simp [recL]
  | k :: r, 0 => by simp
  | k :: r, j + 1 => by
    rw [recL_cons, List.drop_succ_cons, ← recL_drop r j, List.drop_append, hf]
    rw [List.drop_eq_nil_of_le (by rw [hf, Nat.add_mul]; omega)]
    simp only [List.nil_append]
    congr 1; rw [Nat.add_mul]; omega
theorem recL_at {r : List α} {j : Nat} {k : α} (h : r[j]? = some k) : ((recL f r).drop (j * s)).take s = f k := by
  rw [recL_drop f hf, drop_get f hf h, recL_cons]
  exact List.take_left' (hf k)
theorem recL_get {r : List α} {j i : Nat} {k : α} {v : Value} (h : r[j]? = some k) (hv : (f k)[i]? = some v) : (recL f r)[j * s + i]? = some v := by
  rw [← List.getElem?_drop, recL_drop f hf, drop_get f hf h, recL_cons]
  obtain ⟨hi, _⟩ := List.getElem?_eq_some_iff.1 hv
  rw [List.getElem?_append_left hi]
  exact hv
theorem recL_set : ∀ {r : List α} {j i : Nat} {k k' : α} {v : Value}, r[j]? = some k → i < s → (f k).set i v = f k' → (recL f r).set (j * s + i) v = recL f (r.set j k')
  | [], _, _, _, _, _, h, _, _ => by simp at h
  | x :: r, 0, i, k, k', v, h, hi, he => by
    simp at h
    subst h
    simp only [List.set_cons_zero, recL_cons, Nat.zero_mul, Nat.zero_add]
    rw [List.set_append_left _ _ (by rw [hf]; omega), he]
  | x :: r, j + 1, i, k, k', v, h, hi, he => by
    simp only [List.getElem?_cons_succ] at h
    have hs : (j + 1) * s = j * s + s := by rw [Nat.add_mul]; omega
    simp only [List.set_cons_succ, recL_cons]
    rw [List.set_append_right _ _ (by rw [hf]; omega), hf]
    have e : (j + 1) * s + i - s = j * s + i := by omega
    rw [e, recL_set h hi he]
end

/-- A slice of records of the call's own: none where there is no record. -/
def OwnR {α : Type} (f : α → List Value) (et s : Nat) (N : List Blk) (ao : Option Addr) (c : Nat) (r : List α) : Prop := (N = [] ∧ ao = none ∧ c = 0 ∧ r = []) ∨ ∃ b, ao = some ⟨b, 0, none⟩ ∧ N = [⟨b, et, c * s, recL f r, (0, 0)⟩]
theorem OwnR.sl {α : Type} {f : α → List Value} {et s : Nat} {N : List Blk} {ao : Option Addr} {c : Nat} {r : List α} (h : OwnR f et s N ao c r) {X : List Nat} {w0 w : World} (sl : SL X N w0 w) : SlAt w ao (recL f r) := by
  rcases h with ⟨_, rfl, _, rfl⟩ | ⟨b, rfl, rfl⟩
  · exact SlAt.nil _ _
  · exact SlAt.mk' (sl.cells (List.mem_cons_self))

section
variable {α : Type} {f : α → List Value} {s : Nat} {P : Program} {n : Nat} {D : List Deferred} {X : List Nat} {w0 : World} {E : Env} {M : List Blk} {tt t et : TypeId} {ao : Option Addr} {l c j : Nat} {x i : Operand} {k : IntKind} {r : List α} {a : α}
theorem recNe (hf : ∀ a, (f a).length = s) (hs0 : 0 < s) (hk : r[j]? = some a) : recL f r ≠ [] := fun e => by
  have h1 := recL_len f hf r
  obtain ⟨hlt, _⟩ := List.getElem?_eq_some_iff.1 hk
  rw [e] at h1; simp only [List.length_nil] at h1
  have : 0 < r.length * s := Nat.mul_pos (by omega) hs0
  omega
theorem Y_recAt (hf : ∀ a, (f a).length = s) (hs0 : 0 < s) (ht : TSli P t et s) (hs : SlAt w0 ao (recL f r)) (hx : ev E x = some (.slice ao l c)) (hi : ev E i = some (.int k (j : Int))) (hk : r[j]? = some a) (hl : l = r.length) :
    Yl P n D X w0 E M (.indexAddr t x i) tt (.pointer (some ⟨adb ao, ado ao + j * s, none⟩)) :=
  Y_idxS ht hx (hs.addr (recNe hf hs0 hk)) hi (by rw [hl]; exact (List.getElem?_eq_some_iff.1 hk).1)
theorem recCells (hf : ∀ a, (f a).length = s) (hs : SlAt w0 ao (recL f r)) (hk : r[j]? = some a) : CellsAt w0 (adb ao) (ado ao + j * s) (f a) := by
  have h := hs.cells.sub (j * s) s
  rw [recL_at f hf hk] at h
  exact h
theorem Y_recAll (hf : ∀ a, (f a).length = s) (ht : TAgg P et s) (hs : SlAt w0 ao (recL f r)) (hX : adb ao ∉ X) (hx : ev E x = some (.pointer (some ⟨adb ao, ado ao + j * s, none⟩))) (hk : r[j]? = some a) :
    Yl P n D X w0 E M (.load et x) tt (.agg (f a).toArray) := Y_loadXA hx (by rw [hf]; exact ht) (recCells hf hs hk) hX
theorem Y_recSc {o : Nat} {v : Value} (hf : ∀ a, (f a).length = s) (ht : TScal P t) (hs : SlAt w0 ao (recL f r)) (hX : adb ao ∉ X) (hx : ev E x = some (.pointer (some ⟨adb ao, ado ao + j * s + o, none⟩))) (hk : r[j]? = some a) (hv : (f a)[o]? = some v) :
    Yl P n D X w0 E M (.load t x) tt v := Y_loadX hx ht (recCells hf hs hk) hX rfl hv
/-- A record appended. -/
theorem W_appRec {M1 N : List Blk} {y : Operand} {b2 t2 by' : Nat} {K : Value → List Blk → Prop} (hf : ∀ a, (f a).length = s) (h1 : ∀ a, (f a).all Value.oneCell' = true) (hs0 : 0 < s) (hby : by' ≤ 1000000) (ht : P.underlying t = some (.slice et)) (he : TEl P et s by')
    (hO : OwnR f et s N ao c r) (hx : ev E x = some (.slice ao l c)) (hl : l = r.length) (hy : ev E y = some (.slice (some ⟨b2, 0, none⟩) 1 1)) (hlen : r.length ≤ 1000) (hN : Pick M N M1) (hkb : (⟨b2, et, t2, f a, (0, 0)⟩ : Blk) ∈ M1)
    (k : ∀ b' c', (r ++ [a]).length ≤ c' → K (.slice (some ⟨b', 0, none⟩) (r ++ [a]).length c') (⟨b', et, c' * s, recL f (r ++ [a]), (0, 0)⟩ :: M1)) :
    Wr P n D X w0 E M (.call ⟨.builtin .append, #[x, y], #[t, t]⟩) tt K := by
  subst hl
  rcases hO with ⟨rfl, rfl, rfl, rfl⟩ | ⟨b, rfl, rfl⟩
  · cases hN
    refine W_appNil (ys := f a) ht he hx hy (by rw [hf]; omega) (by decide) (fun w s => SlAt.mk' (s.cells hkb)) hs0 (by omega) (by decide) fun b' c' hc => ?_
    have := k b' c' (by simpa using hc)
    rw [List.nil_append, recL_one] at this
    exact this
  · cases hN with
    | cons h1' h2 =>
      cases h2
      have hp := h1'.perm
      refine W_app (l := r.length) (xs := recL f r) (ys := f a) ht he hx hy h1' (recL_len f hf r) (by rw [hf]; omega) (.inl rfl) (fun w s => SlAt.mk' ((s.perm hp).cells (List.mem_cons_of_mem _ hkb))) (h1 a) hs0 ?_ (by omega) fun b' c' hc => ?_
      · have : (r.length + 1) * by' ≤ 1001 * 1000000 := Nat.mul_le_mul (by omega) hby
        omega
      · have := k b' c' (by simpa using hc)
        rw [recL_append, recL_one, List.length_append] at this
        exact this
end
section
variable {H : Type} {enc : TypeId × Value → H} {P : Program} {W : World}
open Go.Deep Go.ChangeShapes
theorem open_recs {α : Type} {f : α → List Value} {s : Nat} {t et : TypeId} {ao : Option Addr} {len cap : Nat} {d : DataW H} {p : List MemPlace} (hf : ∀ a, (f a).length = s) (hs0 : 0 < s) (ht : P.underlying t = some (.slice et)) (hce : P.cellsOf et = s)
    (ho : ∀ fuel cs x, DataW.trod enc P W 0 (fun _ => true) true fuel et cs = some x → ∃ a, cs = f a)
    (h : DataW.Trod enc P W 0 (fun _ => true) true t (.slice ao len cap) d p) : ∃ r : List α, len = r.length ∧ SlAt W ao (recL f r) ∧ len ≤ cap ∧ cap ≤ maxLen := by
  obtain ⟨fuel, hfu⟩ := h
  rcases open_slice ht hfu with ⟨hcs, _⟩ | ⟨a, len', cap', m, n, D, Pl, hcs, _, hl, hm, hmm, _, hx⟩
  · simp [Value.cells] at hcs
    obtain ⟨rfl, rfl, rfl⟩ := hcs
    exact ⟨[], rfl, SlAt.nil _ _, Nat.le_refl _, Nat.zero_le _⟩
  · simp [Value.cells] at hcs
    obtain ⟨rfl, rfl, rfl⟩ := hcs
    simp only [if_true] at hmm
    rw [hce] at hx
    have each : ∀ i, i < len → ∃ k : α, ∀ r, r < s → W.cell? (a.add (i * s + r)) = (f k)[r]? := fun i hi => by
      obtain ⟨cs', h1, h2⟩ := hx i (by omega)
      obtain ⟨k, rfl⟩ := ho _ _ _ h2
      refine ⟨k, fun r hr => ?_⟩
      rw [← add_add]
      exact (World.cells?_some h1).2.2 r hr
    have hall : ∀ q, q ≤ len → ∃ ring : List α, ring.length = q ∧ ∀ i k, ring[i]? = some k → ∀ r, r < s → W.cell? (a.add (i * s + r)) = (f k)[r]? := by
      intro q
      induction q with
      | zero => intro _; exact ⟨[], rfl, fun i k h => by simp at h⟩
      | succ q ih =>
        intro hq
        obtain ⟨ring, h1, h2⟩ := ih (by omega)
        obtain ⟨k, hk⟩ := each q (by omega)
        refine ⟨ring ++ [k], by simp [h1], fun i k' hi => ?_⟩
        by_cases hiq : i < q
        · rw [List.getElem?_append_left (by omega)] at hi
          exact h2 i k' hi
        · rw [List.getElem?_append_right (by omega)] at hi
          have hi0 : i = q := by
            have := (List.getElem?_eq_some_iff.1 hi).1
            simp at this; omega
          subst hi0
          simp [h1] at hi
          subst hi; exact hk
    obtain ⟨ring, h1, h2⟩ := hall len (Nat.le_refl _)
    refine ⟨ring, h1.symm, slAt_of (s := s) (len := len) hs0 (by rw [recL_len f hf, h1]) fun i hi r hr => ?_, hl, hm⟩
    have hk := List.getElem?_eq_getElem (show i < ring.length by omega)
    rw [h2 i _ hk r hr]
    have hlt : r < (f ring[i]).length := by rw [hf]; exact hr
    rw [List.getElem?_eq_getElem hlt]
    exact (recL_get f hf hk (List.getElem?_eq_getElem hlt)).symm
end
end Go.Sl

/-
  make([]byte, n).
-/
import Derived.Test.YtefphcpaakhfbaaSlC
namespace Go.Sl
open Go Go.RowKit
theorem madeB (n : Nat) : madeCells (Value.int .u8 0).cells n = (B (List.replicate n 0)).toArray := by
  apply Array.toList_inj.1
  apply List.ext_getElem
  · simp [madeCells, B]
  · intro i h1 h2
    simp [madeCells, B, Value.cells, Nat.mod_one, bv]
theorem W_makeB {P : Program} {n : Nat} {D : List Deferred} {X : List Nat} {w0 : World} {E : Env} {M : List Blk} {tt t e : TypeId} {m : Nat} {x y : Operand} {k1 k2 : IntKind} {K : Value → List Blk → Prop} (ht : P.underlying t = some (.slice e))
    (he : (P.info? e).map (fun i => (i.zero, i.size, i.bytes)) = some (some (.int .u8 0), 1, 1)) (hx : ev E x = some (.int k1 (m : Int))) (hy : ev E y = some (.int k2 (m : Int))) (hm : m ≤ 1000000)
    (k : ∀ b, K (.slice (some ⟨b, 0, none⟩) m m) (⟨b, e, m * 1, B (List.replicate m 0), (0, 0)⟩ :: M)) : Wr P n D X w0 E M (.makeSlice t x y) tt K := by
  obtain ⟨i, hi, hz⟩ := Option.map_eq_some_iff.1 he
  simp only [Prod.mk.injEq] at hz
  obtain ⟨h1, h2, h3⟩ := hz
  have hl : (B (List.replicate m (0 : UInt8))).length = m := by simp [B]
  refine W_makeSlice (e := e) (l := m) (xs := B (List.replicate m 0)) hx hy (fun w => ?_) (fun b => by have := k b; rw [hl]; simpa using this)
  rw [run_make w t e i _ ht hi h1 k1 k2 (m : Int) (m : Int) (by omega) (Int.le_refl _) (by rw [h3]; omega) (by omega), h2, madeB, hl]
  simp
end Go.Sl

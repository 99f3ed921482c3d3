/-
  A ring that came in, as data.
-/
import Derived.Test.YtkdodpcafamhaaaK6
import Derived.Test.YtkdodpcafamhaaaSlF
namespace Go.Proofs.Ytkdodpcafamhaaa
open Go Go.Sl Go.RowKit Go.ChangeShapes Go.WideShapes Go.ChangeAt Go.Deep
theorem own : ownKnob Try.prog.godebug = none := by kernel_rfl
theorem laidOut : laidOutB Try.prog = true := by kernel_rfl
theorem cells5 : Try.prog.cellsOf 5 = 1 := by kernel_rfl
theorem cells3 : Try.prog.cellsOf 3 = 1 := by kernel_rfl
theorem cells4 : Try.prog.cellsOf 4 = 1 := by kernel_rfl
theorem cells28 : Try.prog.cellsOf 28 = 32 := by kernel_rfl
theorem cells39 : Try.prog.cellsOf 39 = 34 := by kernel_rfl
section
variable {H : Type} {enc : TypeId × Value → H} {W : World} {base : Nat} {spare : Nat → Bool} {held : Bool} {fuel : Nat}
theorem open_b32 {cs : List Value} {x : DataW H × List MemPlace} (h : DataW.trod enc Try.prog W base spare held fuel 28 cs = some x) : ∃ bs : List UInt8, bs.length = 32 ∧ cs = B bs := by
  obtain ⟨xs, m, _, _, hl, hlen, hf⟩ := DataW.trod_array Try.underlying28 h
  rw [cells28] at hl
  rw [cells5] at hf
  have each : ∀ i, i < 32 → ∃ z : Int, cs[i]? = some (.int .u8 z) ∧ (Lit.int .u8 z).wf = true := fun i hi => by
    have h1 := hf i hi
    rw [List.getElem?_eq_getElem (by omega)] at h1
    obtain ⟨z, hz, _, hw⟩ := DataW.trod_int Try.underlying5 h1
    refine ⟨z, ?_, hw⟩
    rw [Nat.mul_one] at hz
    have := congrArg (fun l => l[0]?) hz
    simpa [List.getElem?_take, List.getElem?_drop] using this
  have hz : ∃ zs : List Int, zs.length = 32 ∧ cs = zs.map (Value.int .u8) ∧ ∀ z ∈ zs, (Lit.int .u8 z).wf = true := by
    refine ⟨cs.map fun v => match v with | .int _ z => z | _ => 0, by simpa using hl, ?_, fun z hz => ?_⟩
    · apply List.ext_getElem?
      intro i
      by_cases hi : i < 32
      · obtain ⟨z, hz, _⟩ := each i hi
        simp [List.getElem?_map, hz]
      · rw [List.getElem?_eq_none (by omega), List.getElem?_eq_none (by simp; omega)]
    · obtain ⟨v, hv, rfl⟩ := List.mem_map.1 hz
      obtain ⟨i, hi⟩ := List.getElem?_of_mem hv
      obtain ⟨z, hz, hw⟩ := each i (by have := (List.getElem?_eq_some_iff.1 hi).1; omega)
      rw [hi] at hz
      injection hz with hz
      subst hz; exact hw
  obtain ⟨zs, h1, h2, h3⟩ := hz
  obtain ⟨bs, hbs⟩ := bytes_of_ints zs h3
  refine ⟨bs, ?_, h2.trans hbs⟩
  have := congrArg List.length hbs
  simp [B] at this
  omega
theorem open_key {cs : List Value} {x : DataW H × List MemPlace} (h : DataW.trod enc Try.prog W base spare held fuel 39 cs = some x) : ∃ k : KeyD, cs = keyL k := by
  obtain ⟨y0, y1, y2, m, _, hl, h0, h1, h2⟩ := trod_struct3 Try.underlying39 h
  rw [cells39] at hl
  simp only [cells3, cells28, cells4, List.drop_zero] at h0 h1 h2
  obtain ⟨n, hn, _, _⟩ := DataW.trod_int Try.underlying3 h0
  obtain ⟨bs, hb, hbs⟩ := open_b32 h1
  obtain ⟨r, hr, _⟩ := DataW.trod_bool Try.underlying4 h2
  refine ⟨⟨n, bs, hb, r⟩, ?_⟩
  have e : cs = cs.take 1 ++ ((cs.drop 1).take 32 ++ (cs.drop 33).take 1) := by
    have e1 : (cs.drop 33).take 1 = cs.drop 33 := List.take_of_length_le (by simp; omega)
    rw [e1]
    have e2 : cs.drop 33 = (cs.drop 1).drop 32 := by simp
    rw [e2, List.take_append_drop, List.take_append_drop]
  rw [e, hn, hbs, hr]
  rfl
theorem open_ring {ao : Option Addr} {len cap : Nat} {d : DataW H} {p : List MemPlace} (h : DataW.Trod enc Try.prog W 0 (fun _ => true) true 22 (.slice ao len cap) d p) :
    ∃ ring : List KeyD, len = ring.length ∧ SlAt W ao (ringL ring) ∧ len ≤ cap ∧ cap ≤ maxLen := by
  obtain ⟨fuel, hf⟩ := h
  rcases open_slice Try.underlying22 hf with ⟨hcs, _⟩ | ⟨a, len', cap', m, n, D, Pl, hcs, _, hl, hm, hmm, _, hx⟩
  · simp [Value.cells] at hcs
    obtain ⟨rfl, rfl, rfl⟩ := hcs
    exact ⟨[], rfl, SlAt.nil _ _, Nat.le_refl _, Nat.zero_le _⟩
  · simp [Value.cells] at hcs
    obtain ⟨rfl, rfl, rfl⟩ := hcs
    simp only [if_true] at hmm
    rw [cells39] at hx
    have each : ∀ i, i < len → ∃ k : KeyD, ∀ r, r < 34 → W.cell? (a.add (i * 34 + r)) = (keyL k)[r]? := fun i hi => by
      obtain ⟨cs', h1, h2⟩ := hx i (by omega)
      obtain ⟨k, rfl⟩ := open_key h2
      refine ⟨k, fun r hr => ?_⟩
      rw [← add_add]
      exact (World.cells?_some h1).2.2 r hr
    have hall : ∀ q, q ≤ len → ∃ ring : List KeyD, ring.length = q ∧ ∀ i k, ring[i]? = some k → ∀ r, r < 34 → W.cell? (a.add (i * 34 + r)) = (keyL k)[r]? := by
      intro q
      induction q with
      | zero => intro _; exact ⟨[], rfl, fun i k h => by simp at h⟩
      | succ q ih =>
        intro hq
        obtain ⟨ring, h1, h2⟩ := ih (by omega)
        obtain ⟨k, hk⟩ := each q (by omega)
        refine ⟨ring ++ [k], by simp [h1], fun i k' hi => ?_⟩
        by_cases hiq : i < q
        · rw [List.getElem?_append_left (by omega)] at hi
          exact h2 i k' hi
        · rw [List.getElem?_append_right (by omega)] at hi
          have hi0 : i = q := by
            have := (List.getElem?_eq_some_iff.1 hi).1
            simp at this; omega
          subst hi0
          simp [h1] at hi
          subst hi; exact hk
    obtain ⟨ring, h1, h2⟩ := hall len (Nat.le_refl _)
    refine ⟨ring, h1.symm, slAt_of (s := 34) (len := len) (by decide) (by rw [ringL_len, h1]) fun i hi r hr => ?_, hl, hm⟩
    have hk := List.getElem?_eq_getElem (show i < ring.length by omega)
    rw [h2 i _ hk r hr]
    have hlt : r < (keyL ring[i]).length := by rw [keyL_len]; exact hr
    rw [List.getElem?_eq_getElem hlt]
    exact (ringL_get hk (List.getElem?_eq_getElem hlt)).symm
end
end Go.Proofs.Ytkdodpcafamhaaa

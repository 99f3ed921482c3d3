/-
  32 bytes that came in, as data.
-/
import Derived.Test.YtefphcpaakhfbaaL3
import Derived.Test.YtefphcpaakhfbaaSlF
namespace Go.Proofs.Ytefphcpaakhfbaa
open Go Go.Sl Go.RowKit Go.ChangeShapes Go.WideShapes Go.ChangeAt Go.Deep Go.Fp
theorem own : ownKnob Try.prog.godebug = none := by kernel_rfl
theorem laidOut : laidOutB Try.prog = true := by kernel_rfl
theorem cellsU8 : Try.prog.cellsOf 5 = 1 := by kernel_rfl
theorem cellsB32 : Try.prog.cellsOf 22 = 32 := by kernel_rfl
section
variable {H : Type} {enc : TypeId × Value → H} {W : World} {base : Nat} {spare : Nat → Bool} {held : Bool} {fuel : Nat}
theorem open_b32 {cs : List Value} {x : DataW H × List MemPlace} (h : DataW.trod enc Try.prog W base spare held fuel 22 cs = some x) : ∃ bs : List UInt8, bs.length = 32 ∧ cs = B bs := by
  obtain ⟨xs, m, _, _, hl, hlen, hf⟩ := DataW.trod_array Try.underlying22 h
  rw [cellsB32] at hl
  rw [cellsU8] at hf
  have each : ∀ i, i < 32 → ∃ z : Int, cs[i]? = some (.int .u8 z) ∧ (Lit.int .u8 z).wf = true := fun i hi => by
    have h1 := hf i hi
    rw [List.getElem?_eq_getElem (by omega)] at h1
    obtain ⟨z, hz, _, hw⟩ := DataW.trod_int Try.underlying5 h1
    refine ⟨z, ?_, hw⟩
    rw [Nat.mul_one] at hz
    have := congrArg (fun l => l[0]?) hz
    simpa [List.getElem?_take, List.getElem?_drop] using this
  have hz : ∃ zs : List Int, zs.length = 32 ∧ cs = zs.map (Value.int .u8) ∧ ∀ z ∈ zs, (Lit.int .u8 z).wf = true := by
    refine ⟨cs.map fun v => match v with | .int _ z => z | _ => 0, by simpa using hl, ?_, fun z hz => ?_⟩
    · apply List.ext_getElem?
      intro i
      by_cases hi : i < 32
      · obtain ⟨z, hz, _⟩ := each i hi
        simp [List.getElem?_map, hz]
      · rw [List.getElem?_eq_none (by omega), List.getElem?_eq_none (by simp; omega)]
    · obtain ⟨v, hv, rfl⟩ := List.mem_map.1 hz
      obtain ⟨i, hi⟩ := List.getElem?_of_mem hv
      obtain ⟨z, hz, hw⟩ := each i (by have := (List.getElem?_eq_some_iff.1 hi).1; omega)
      rw [hi] at hz
      injection hz with hz
      subst hz; exact hw
  obtain ⟨zs, h1, h2, h3⟩ := hz
  obtain ⟨bs, hbs⟩ := bytes_of_ints zs h3
  refine ⟨bs, ?_, h2.trans hbs⟩
  have := congrArg List.length hbs
  simp [B] at this
  omega
end
theorem open_arr {H : Type} {enc : TypeId × Value → H} {W : World} {v : Value} {d : DataW H} {p : List MemPlace} {r : Reach} {b0 : Nat} (hv : Value.okWide Try.prog W r b0 22 v) (h : DataW.Trod enc Try.prog W 0 (fun _ => true) true 22 v d p) :
    ∃ bs : List UInt8, bs.length = 32 ∧ v = .agg (B bs).toArray := by
  simp only [Value.okWide, Try.underlying22] at hv
  obtain ⟨cs, rfl, _⟩ := hv
  obtain ⟨fuel, hf⟩ := h
  have hcs : (Value.agg cs).cells.toList = cs.toList := rfl
  rw [hcs] at hf
  obtain ⟨bs, h1, h2⟩ := open_b32 hf
  refine ⟨bs, h1, ?_⟩
  congr 1
  apply Array.toList_inj.1
  simpa using h2
end Go.Proofs.Ytefphcpaakhfbaa

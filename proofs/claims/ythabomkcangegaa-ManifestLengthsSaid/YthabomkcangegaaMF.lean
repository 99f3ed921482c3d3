/-
  A manifest that came in, as data.
-/
import Derived.Test.YthabomkcangegaaM6
namespace Go.Proofs.Ythabomkcangegaa
open Go Go.Sl Go.RowKit Go.ChangeShapes Go.WideShapes Go.ChangeAt Go.Deep
theorem own : ownKnob Try.prog.godebug = none := by kernel_rfl
theorem laidOut : laidOutB Try.prog = true := by kernel_rfl
theorem cells5 : Try.prog.cellsOf 5 = 1 := by kernel_rfl
theorem cells3 : Try.prog.cellsOf 3 = 1 := by kernel_rfl
theorem cells22 : Try.prog.cellsOf 22 = 1 := by kernel_rfl
theorem cells24 : Try.prog.cellsOf 24 = 5 := by kernel_rfl
theorem cells45 : Try.prog.cellsOf 45 = 32 := by kernel_rfl
theorem cells47 : Try.prog.cellsOf 47 = 34 := by kernel_rfl
section
variable {H : Type} {enc : TypeId × Value → H} {W : World} {base : Nat} {spare : Nat → Bool} {held : Bool} {fuel : Nat}
theorem open_b32 {cs : List Value} {x : DataW H × List MemPlace} (h : DataW.trod enc Try.prog W base spare held fuel 45 cs = some x) : ∃ bs : List UInt8, bs.length = 32 ∧ cs = B bs := by
  obtain ⟨xs, m, _, _, hl, hlen, hf⟩ := DataW.trod_array Try.underlying45 h
  rw [cells45] at hl
  rw [cells5] at hf
  have each : ∀ i, i < 32 → ∃ z : Int, cs[i]? = some (.int .u8 z) ∧ (Lit.int .u8 z).wf = true := fun i hi => by
    have h1 := hf i hi
    rw [List.getElem?_eq_getElem (by omega)] at h1
    obtain ⟨z, hz, _, hw⟩ := DataW.trod_int Try.underlying5 h1
    refine ⟨z, ?_, hw⟩
    rw [Nat.mul_one] at hz
    have := congrArg (fun l => l[0]?) hz
    simpa [List.getElem?_take, List.getElem?_drop] using this
  have hz : ∃ zs : List Int, zs.length = 32 ∧ cs = zs.map (Value.int .u8) ∧ ∀ z ∈ zs, (Lit.int .u8 z).wf = true := by
    refine ⟨cs.map fun v => match v with | .int _ z => z | _ => 0, by simpa using hl, ?_, fun z hz => ?_⟩
    · apply List.ext_getElem?
      intro i
      by_cases hi : i < 32
      · obtain ⟨z, hz, _⟩ := each i hi
        simp [List.getElem?_map, hz]
      · rw [List.getElem?_eq_none (by omega), List.getElem?_eq_none (by simp; omega)]
    · obtain ⟨v, hv, rfl⟩ := List.mem_map.1 hz
      obtain ⟨i, hi⟩ := List.getElem?_of_mem hv
      obtain ⟨z, hz, hw⟩ := each i (by have := (List.getElem?_eq_some_iff.1 hi).1; omega)
      rw [hi] at hz
      injection hz with hz
      subst hz; exact hw
  obtain ⟨zs, h1, h2, h3⟩ := hz
  obtain ⟨bs, hbs⟩ := bytes_of_ints zs h3
  refine ⟨bs, ?_, h2.trans hbs⟩
  have := congrArg List.length hbs
  simp [B] at this
  omega
theorem open_seg {cs : List Value} {x : DataW H × List MemPlace} (h : DataW.trod enc Try.prog W base spare held fuel 47 cs = some x) : ∃ k : SegD, cs = segL k := by
  obtain ⟨y0, y1, y2, m, _, hl, h0, h1, h2⟩ := trod_struct3 Try.underlying47 h
  rw [cells47] at hl
  simp only [cells3, cells45, List.drop_zero] at h0 h1 h2
  obtain ⟨n, hn, _, _⟩ := DataW.trod_int Try.underlying3 h0
  obtain ⟨r, hr, _, _⟩ := DataW.trod_int Try.underlying3 h1
  obtain ⟨bs, hb, hbs⟩ := open_b32 h2
  refine ⟨⟨n, r, bs, hb⟩, ?_⟩
  have e : cs = cs.take 1 ++ ((cs.drop 1).take 1 ++ (cs.drop 2).take 32) := by
    have e1 : (cs.drop 2).take 32 = cs.drop 2 := List.take_of_length_le (by simp; omega)
    rw [e1]
    have e2 : cs.drop 2 = (cs.drop 1).drop 1 := by simp
    rw [e2, List.take_append_drop, List.take_append_drop]
  rw [e, hn, hr, hbs]
  rfl
theorem open_man {v : Value} {d : DataW H} {p : List MemPlace} {r : Reach} {b0 : Nat} (hv : Value.okWide Try.prog W r b0 24 v) (h : DataW.Trod enc Try.prog W 0 (fun _ => true) true 24 v d p) :
    ∃ (m : ManD) (ao : Option Addr) (c : Nat), v = .agg (manL m ao c).toArray ∧ SlAt W ao (segsL m.segs) ∧ m.segs.length ≤ c := by
  obtain ⟨cs, rfl, hsz⟩ := okWide_struct Try.underlying24 hv
  rw [cells24] at hsz
  obtain ⟨fuel, hf⟩ := h
  obtain ⟨xs, n, _, _, hl, hlen, hx⟩ := DataW.trod_struct Try.underlying24 hf
  have hcs : (Value.agg cs).cells.toList = cs.toList := rfl
  rw [hcs] at hx
  have hx5 : xs.length = 5 := hlen
  have f0 : DataW.trod enc Try.prog W 0 (fun _ => true) true n 3 ((cs.toList.drop 0).take (Try.prog.cellsOf 3)) = xs[0]? := hx 0 _ rfl
  have f1 : DataW.trod enc Try.prog W 0 (fun _ => true) true n 3 ((cs.toList.drop 1).take (Try.prog.cellsOf 3)) = xs[1]? := hx 1 _ rfl
  have f2 : DataW.trod enc Try.prog W 0 (fun _ => true) true n 3 ((cs.toList.drop 2).take (Try.prog.cellsOf 3)) = xs[2]? := hx 2 _ rfl
  have f3 : DataW.trod enc Try.prog W 0 (fun _ => true) true n 3 ((cs.toList.drop 3).take (Try.prog.cellsOf 3)) = xs[3]? := hx 3 _ rfl
  have f4 : DataW.trod enc Try.prog W 0 (fun _ => true) true n 22 ((cs.toList.drop 4).take (Try.prog.cellsOf 22)) = xs[4]? := hx 4 _ rfl
  rw [List.getElem?_eq_getElem (by omega)] at f0 f1 f2 f3 f4
  rw [cells3] at f0 f1 f2 f3
  rw [cells22] at f4
  obtain ⟨n0, e0, _, _⟩ := DataW.trod_int Try.underlying3 f0
  obtain ⟨n1, e1, _, _⟩ := DataW.trod_int Try.underlying3 f1
  obtain ⟨n2, e2, _, _⟩ := DataW.trod_int Try.underlying3 f2
  obtain ⟨n3, e3, _, _⟩ := DataW.trod_int Try.underlying3 f3
  have hsl : ∃ ao len cap, (cs.toList.drop 4).take 1 = [.slice ao len cap] := by
    rcases open_slice Try.underlying22 f4 with ⟨h, _⟩ | ⟨a, len, cap, _, _, _, _, h, _⟩
    · exact ⟨_, _, _, h⟩
    · exact ⟨_, _, _, h⟩
  obtain ⟨ao, len, cap, e4⟩ := hsl
  rw [e4] at f4
  obtain ⟨segs, rfl, hs, hc, _⟩ := open_recs (f := segL) segL_len (by decide) Try.underlying22 cells47 (fun _ _ _ h => open_seg h) (ao := ao) (len := len) (cap := cap) ⟨_, f4⟩
  refine ⟨⟨n0, n1, n2, n3, segs⟩, ao, cap, ?_, hs, hc⟩
  congr 1
  apply Array.toList_inj.1
  have e : cs.toList = (cs.toList.drop 0).take 1 ++ ((cs.toList.drop 1).take 1 ++ ((cs.toList.drop 2).take 1 ++ ((cs.toList.drop 3).take 1 ++ (cs.toList.drop 4).take 1))) := by
    have h5 : (cs.toList.drop 4).take 1 = cs.toList.drop 4 := List.take_of_length_le (by simp; omega)
    rw [h5, show cs.toList.drop 4 = (cs.toList.drop 3).drop 1 by simp, List.take_append_drop, show cs.toList.drop 3 = (cs.toList.drop 2).drop 1 by simp, List.take_append_drop, show cs.toList.drop 2 = (cs.toList.drop 1).drop 1 by simp, List.take_append_drop,
      show cs.toList.drop 1 = (cs.toList.drop 0).drop 1 by simp, List.take_append_drop]
    simp
  rw [e, e0, e1, e2, e3, e4]
  rfl
end
end Go.Proofs.Ythabomkcangegaa

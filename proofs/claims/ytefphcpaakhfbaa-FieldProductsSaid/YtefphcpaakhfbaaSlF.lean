/-
  From a contract to a row: what came in as data, what is left behind.
-/
import Derived.Test.YtefphcpaakhfbaaSlB
import Derived.ProofKit
import Derived.OpenShut
import Derived.Carry
import Derived.Deep.Slices
import Derived.Deep.Strs
namespace Go.Sl
open Go Go.RowKit Go.ChangeShapes Go.WideShapes Go.ChangeAt

theorem SL.below {N : List Blk} {W W' : World} (h : SL [] N W W') : Below W.heap.size W W' := ⟨h.os, h.tape, h.output, h.size, fun k hk => h.same k hk (by simp)⟩
theorem FnAt.calls {P : Program} {f : FuncId} {args : List Value} {W : World} {K : Value → List Blk → Prop} (h : FnAt P f args [] W (Ret K)) :
    Calls P f args.toArray W fun e W' => ∃ v N, e = .returned v ∧ K v N ∧ Below W.heap.size W W' := by
  have s : SL (([] : List Blk).map (·.b)) [] W W := ⟨rfl, rfl, rfl, Nat.le_refl _, fun _ _ _ => rfl, List.nodup_nil, fun j hj => by simp at hj, fun j hj => by simp at hj⟩
  refine (h s).mono fun e W' ⟨N, hN, hs⟩ => ?_
  cases e with
  | returned v => exact ⟨v, N, rfl, hN, SL.below hs⟩
  | panicked c => exact hN.elim
  | outgrown => exact hN.elim

section
variable {H : Type} {enc : TypeId × Value → H} {P : Program} {W : World}
theorem addr_of {a : Addr} (h : a.spot = none) : a = ⟨a.block, a.off, none⟩ := by cases a; simp_all
/-- A slice whose elements' cells are known one by one. -/
theorem slAt_of {a : Addr} {len s : Nat} {xs : List Value} (hs : 0 < s) (hl : xs.length = len * s) (h : ∀ i, i < len → ∀ r, r < s → W.cell? (a.add (i * s + r)) = xs[i * s + r]?) : SlAt W (some a) xs := by
  by_cases hne : xs = []
  · subst hne; exact SlAt.nil _ _
  · have hpos : 0 < len := by
      rcases Nat.eq_zero_or_pos len with h0 | h0
      · subst h0; simp at hl; exact absurd hl hne
      · exact h0
    have hx0 : xs[0]? = some (xs[0]'(List.length_pos_iff.2 hne)) := List.getElem?_eq_getElem _
    have h0 := h 0 hpos 0 hs
    simp only [Nat.zero_mul, Nat.zero_add, hx0] at h0
    have hsp : a.spot = none := by simpa [Addr.add] using World.cell?_spot h0
    have ha := addr_of hsp
    rw [ha]
    refine SlAt.mk' fun j v hv => ?_
    have hj := (List.getElem?_eq_some_iff.1 hv).1
    have hdm : (j / s) * s + j % s = j := by rw [Nat.mul_comm]; exact Nat.div_add_mod j s
    have hq : j / s < len := by rw [Nat.div_lt_iff_lt_mul hs]; omega
    have := h (j / s) hq (j % s) (Nat.mod_lt _ hs)
    rw [hdm, hv, ha, addr_add] at this
    exact this
theorem open_ints_sl {t e : TypeId} {k : IntKind} {ao : Option Addr} {len cap : Nat} {d : DataW H} {p : List MemPlace} (ht : P.underlying t = some (.slice e)) (he : P.underlying e = some (.int k)) (hc : P.cellsOf e = 1)
    (h : DataW.Trod enc P W 0 (fun _ => true) true t (.slice ao len cap) d p) : ∃ zs : List Int, len = zs.length ∧ SlAt W ao (zs.map (Value.int k)) ∧ len ≤ cap ∧ cap ≤ maxLen ∧ ∀ z ∈ zs, (Lit.int k z).wf = true := by
  obtain ⟨fuel, hf⟩ := h
  rcases open_ints ht he hc hf with ⟨hcs, _⟩ | ⟨a, len', cap', zs, hcs, _, hl, hm, hz, _, hcell, hws⟩
  · simp [Value.cells] at hcs
    obtain ⟨rfl, rfl, rfl⟩ := hcs
    exact ⟨[], rfl, SlAt.nil _ _, Nat.le_refl _, Nat.zero_le _, fun z hz => by simp at hz⟩
  · simp [Value.cells] at hcs
    obtain ⟨rfl, rfl, rfl⟩ := hcs
    simp only [if_true] at hz
    refine ⟨zs.take len, by simp; omega, ?_, hl, hm, fun z hz => hws z (List.mem_of_mem_take hz)⟩
    refine slAt_of (s := 1) (len := len) (by decide) (by simp; omega) fun i hi r hr => ?_
    have hr0 : r = 0 := by omega
    subst hr0
    simp only [Nat.mul_one, Nat.add_zero]
    rw [hcell i (by omega), List.getElem?_map, List.getElem?_take, if_pos hi]
    rw [List.getElem?_eq_getElem (by omega)]
    simp [List.getD, List.getElem?_eq_getElem (show i < zs.length by omega)]
theorem bytes_of_ints : ∀ (zs : List Int), (∀ z ∈ zs, (Lit.int .u8 z).wf = true) → ∃ bs : List UInt8, zs.map (Value.int .u8) = B bs
  | [], _ => ⟨[], rfl⟩
  | z :: zs, h => by
    obtain ⟨bs, hbs⟩ := bytes_of_ints zs fun y hy => h y (List.mem_cons_of_mem _ hy)
    have hz := h z (List.mem_cons_self)
    have hb : 0 ≤ z ∧ z < 256 := by
      simp only [Lit.wf, Bool.and_eq_true, decide_eq_true_eq] at hz
      have e : (2 : Int) ^ IntKind.bits .u8 = 256 := by decide
      simp [IntKind.min, IntKind.max, IntKind.signed, IntKind.bits] at hz
      omega
    refine ⟨UInt8.ofNat z.toNat :: bs, ?_⟩
    simp only [List.map_cons, hbs, B, List.cons.injEq, and_true]
    simp only [bv, UInt8.toNat_ofNat']
    congr 1
    omega
theorem open_bytes_sl {t e : TypeId} {ao : Option Addr} {len cap : Nat} {d : DataW H} {p : List MemPlace} (ht : P.underlying t = some (.slice e)) (he : P.underlying e = some (.int .u8)) (hc : P.cellsOf e = 1)
    (h : DataW.Trod enc P W 0 (fun _ => true) true t (.slice ao len cap) d p) : ∃ bs : List UInt8, len = bs.length ∧ SlAt W ao (B bs) ∧ len ≤ cap ∧ cap ≤ maxLen := by
  obtain ⟨zs, h1, h2, h3, h4, h5⟩ := open_ints_sl ht he hc h
  obtain ⟨bs, hbs⟩ := bytes_of_ints zs h5
  refine ⟨bs, ?_, hbs ▸ h2, h3, h4⟩
  have := congrArg List.length hbs
  simp [B] at this
  omega
/-- What 'post' asks, where the law returns true and leaves all as it was. -/
theorem post_true {f : Func} {s : ChangeSpec} {W' : World} {args : Array Value} {ds gs : List (DataW H)} {p : List MemPlace} {tb : TypeId}
    (hW : DataW.Whole enc P f.params.toList s.vars false W args.toList ds gs p) (hs : (s.fn H (ds ++ gs)).results = [.lit (.bool true)]) (hv : s.vars = []) (hvs : (s.fn H (ds ++ gs)).vars = [])
    (hr : f.resultTypes = #[tb]) (htb : P.underlying tb = some .bool)
    (hargs : DataW.TrodAll enc P W' 0 (fun b => decide (b < W.heap.size)) true f.params.toList args.toList (s.fn H (ds ++ gs)).args p) (hB : Below W.heap.size W W') :
    s.post enc P f false true false false W args (.bool true) W' := by
  refine ⟨ds, gs, p, [], p, [], hW, ?_, hargs, ?_, hB.frame _, fun h => by cases h⟩
  · rw [hr, hs]; exact trodAll_mk1 (shut_bool htb true)
  · rw [hv, hvs]; rfl
end
end Go.Sl

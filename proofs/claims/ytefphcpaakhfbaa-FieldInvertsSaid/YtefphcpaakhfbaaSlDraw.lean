/-
  Regions that draw their order: what yields its value whatever comes before it is taken first. After Derived/OrdersHeld.lean, with a condition that the region's tail need not keep.
-/
import Derived.Test.YtefphcpaakhfbaaSlM
namespace Go.Sl
open Go Go.RowKit

section
variable {P : Program} {ops : Array Oper} {Q : Exit → Act → World → Prop} {md : Region.Mode}

/-- Whatever order is picked from here on; behind each operation S1 holds, till one of the tail has come up; then S0. -/
def wpAnyT (P : Program) (md : Region.Mode) (ops : Array Oper) (Q : Exit → Act → World → Prop) (S0 : World → Prop) (tl : Nat → Bool) : Nat → (World → Prop) → Array Bool → Act → World → Prop
  | 0, _, listed, a, w => Region.ready md ops listed = [] ∧ Q .normal a w
  | fuel + 1, S1, listed, a, w =>
    (Region.ready md ops listed = [] → Q .normal a w) ∧
    ∀ i ∈ Region.ready md ops listed, wpOp P ops Q i (fun a' w' => (bif tl i then S0 else S1) w' ∧ wpAnyT P md ops Q S0 tl fuel (bif tl i then S0 else S1) (listed.setIfInBounds i true) a' w') a w
theorem wpAny_of_T {S0 : World → Prop} {tl : Nat → Bool} : ∀ (fuel : Nat) (S1 : World → Prop) (listed : Array Bool) (a : Act) (w : World), wpAnyT P md ops Q S0 tl fuel S1 listed a w → wpAny P md ops Q fuel listed a w
  | 0, _, _, _, _, h => h
  | fuel + 1, _, _, _, _, h => ⟨h.1, fun i hi => wpOp_mono (fun _ _ h' => wpAny_of_T fuel _ _ _ _ h'.2) (h.2 i hi)⟩
theorem wpAnyT_mono {S0 : World → Prop} {tl : Nat → Bool} : ∀ (fuel : Nat) (S1 S1' : World → Prop) (_ : ∀ w, S1 w → S1' w) (listed : Array Bool) (a : Act) (w : World),
    wpAnyT P md ops Q S0 tl fuel S1 listed a w → wpAnyT P md ops Q S0 tl fuel S1' listed a w
  | 0, _, _, _, _, _, _, h => h
  | fuel + 1, S1, S1', hS, listed, a, w, h => ⟨h.1, fun i hi => wpOp_mono (fun a' w' h' => by
      cases ht : tl i with
      | true => rw [ht] at h'; exact h'
      | false =>
        rw [ht] at h'
        exact ⟨hS _ h'.1, wpAnyT_mono fuel _ _ hS _ _ _ h'.2⟩) (h.2 i hi)⟩
/-- An operation that yields its value in every world that meets S1, taken first: each of the tail waits for it. -/
theorem wpAnyT_first {S0 : World → Prop} {tl : Nat → Bool} {S1 : World → Prop} {i : Nat} {oi : Oper} {v : Value} (hi : ops[i]? = some oi) (hsel : ∀ (j : Nat) (o : Oper) cs b, ops[j]? = some o → o.op ≠ .select cs b)
    (hQ : ∀ c a w, Q (.panic c) (a.put oi.dst v) w → Q (.panic c) a w) (hti : tl i = false) (hta : ∀ j oj, ops[j]? = some oj → tl j = true → ∃ e ∈ oj.after, Region.binds md e = true ∧ e.on = i) :
    ∀ (fuel : Nat) (listed : Array Bool) (a : Act) (w : World),
      (∀ j oj, ops[j]? = some oj → j ≠ i → listed.getD j true = false → (∀ e ∈ oj.after, Region.binds md e = true → e.on ≠ i) → oi.apart ops oj = true) →
      i ∈ Region.ready md ops listed → YieldsIf P ops S1 oi v a → S1 w →
      wpAnyT P md ops Q S0 tl fuel S1 (listed.setIfInBounds i true) (a.put oi.dst v) w → wpAnyT P md ops Q S0 tl (fuel + 1) S1 listed a w := by
  intro fuel
  induction fuel with
  | zero =>
    intro listed a w _ hr hy hS H
    refine ⟨fun h => (by rw [h] at hr; cases hr), fun j hj => ?_⟩
    by_cases hji : j = i
    · subst hji; rw [hti]; exact hy.wpOp hi hS ⟨hS, H⟩
    · have := ready_mono hj hji
      rw [H.1] at this
      cases this
  | succ fuel ih =>
    intro listed a w hfree hr hy hS H
    refine ⟨fun h => (by rw [h] at hr; cases hr), fun j hj => ?_⟩
    by_cases hji : j = i
    · subst hji; rw [hti]; exact hy.wpOp hi hS ⟨hS, H⟩
    · have h1 := H.2 j (ready_mono hj hji)
      obtain ⟨hjun, oj, hoj, hall⟩ := mem_ready.1 hj
      have hnot : ∀ e ∈ oj.after, Region.binds md e = true → e.on ≠ i := fun e he hb heq => by
        have h1 := hall e he hb
        have h0 := (mem_ready.1 hr).1
        rw [heq] at h1
        rcases Nat.lt_or_ge i listed.size with h' | h'
        · simp [h'] at h0 h1; rw [h0] at h1; cases h1
        · simp [Array.getElem?_eq_none h'] at h1
      have htj : tl j = false := by
        cases ht : tl j with
        | false => rfl
        | true =>
          obtain ⟨e, he, hb, heq⟩ := hta j oj hoj ht
          exact absurd heq (hnot e he hb)
      rw [htj] at h1 ⊢
      have h2 := wpOp_putIf hoj (hfree j oj hoj hji hjun hnot) (fun cs b => hsel i oi cs b hi) (fun cs b => hsel j oj cs b hoj) hQ hy h1
      have hfree' : ∀ k ok, ops[k]? = some ok → k ≠ i → (listed.setIfInBounds j true).getD k true = false →
          (∀ e ∈ ok.after, Region.binds md e = true → e.on ≠ i) → oi.apart ops ok = true := fun k ok hk hki hun hno => by
        refine hfree k ok hk hki ?_ hno
        by_cases hjk : j = k
        · subst hjk; exact hjun
        · rw [getD_set_ne true hjk] at hun; exact hun
      refine wpOp_mono (fun a' w' h3 => ⟨h3.2.1, ih (listed.setIfInBounds j true) a' w' hfree' (ready_mono hr (Ne.symm hji)) h3.1 h3.2.1 ?_⟩) h2
      rw [Array.setIfInBounds_comm _ _ hji]
      exact h3.2.2
/-- An operation that yields its value in every world that meets S0, taken first. -/
theorem wpAnyT_pure {S0 : World → Prop} {tl : Nat → Bool} {i : Nat} {oi : Oper} {v : Value} (hi : ops[i]? = some oi) (hsel : ∀ (j : Nat) (o : Oper) cs b, ops[j]? = some o → o.op ≠ .select cs b)
    (hQ : ∀ c a w, Q (.panic c) (a.put oi.dst v) w → Q (.panic c) a w) (hti : tl i = false) :
    ∀ (fuel : Nat) (S1 : World → Prop) (_ : ∀ w, S1 w → S0 w) (listed : Array Bool) (a : Act) (w : World),
      (∀ j oj, ops[j]? = some oj → j ≠ i → listed.getD j true = false → (∀ e ∈ oj.after, Region.binds md e = true → e.on ≠ i) → oi.apart ops oj = true) →
      i ∈ Region.ready md ops listed → YieldsIf P ops S0 oi v a → S1 w →
      wpAnyT P md ops Q S0 tl fuel S1 (listed.setIfInBounds i true) (a.put oi.dst v) w → wpAnyT P md ops Q S0 tl (fuel + 1) S1 listed a w := by
  intro fuel
  induction fuel with
  | zero =>
    intro S1 hS01 listed a w _ hr hy hS H
    refine ⟨fun h => (by rw [h] at hr; cases hr), fun j hj => ?_⟩
    by_cases hji : j = i
    · subst hji; rw [hti]; exact hy.wpOp hi (hS01 _ hS) ⟨hS, H⟩
    · have := ready_mono hj hji
      rw [H.1] at this
      cases this
  | succ fuel ih =>
    intro S1 hS01 listed a w hfree hr hy hS H
    refine ⟨fun h => (by rw [h] at hr; cases hr), fun j hj => ?_⟩
    by_cases hji : j = i
    · subst hji; rw [hti]; exact hy.wpOp hi (hS01 _ hS) ⟨hS, H⟩
    · have h1 := H.2 j (ready_mono hj hji)
      obtain ⟨hjun, oj, hoj, hall⟩ := mem_ready.1 hj
      have hnot : ∀ e ∈ oj.after, Region.binds md e = true → e.on ≠ i := fun e he hb heq => by
        have h1 := hall e he hb
        have h0 := (mem_ready.1 hr).1
        rw [heq] at h1
        rcases Nat.lt_or_ge i listed.size with h' | h'
        · simp [h'] at h0 h1; rw [h0] at h1; cases h1
        · simp [Array.getElem?_eq_none h'] at h1
      have hS' : ∀ w, (bif tl j then S0 else S1) w → S0 w := fun w h => by
        cases ht : tl j <;> rw [ht] at h
        · exact hS01 _ h
        · exact h
      have h2 := wpOp_putIf hoj (hfree j oj hoj hji hjun hnot) (fun cs b => hsel i oi cs b hi) (fun cs b => hsel j oj cs b hoj) hQ hy h1
      have hfree' : ∀ k ok, ops[k]? = some ok → k ≠ i → (listed.setIfInBounds j true).getD k true = false →
          (∀ e ∈ ok.after, Region.binds md e = true → e.on ≠ i) → oi.apart ops ok = true := fun k ok hk hki hun hno => by
        refine hfree k ok hk hki ?_ hno
        by_cases hjk : j = k
        · subst hjk; exact hjun
        · rw [getD_set_ne true hjk] at hun; exact hun
      refine wpOp_mono (fun a' w' h3 => ⟨h3.2.1, ih _ hS' (listed.setIfInBounds j true) a' w' hfree' (ready_mono hr (Ne.symm hji)) h3.1 h3.2.1 ?_⟩) h2
      rw [Array.setIfInBounds_comm _ _ hji]
      exact h3.2.2
end

def inB (tl : List Nat) (i : Nat) : Bool := tl.any (Nat.beq i)
/-- Each of the tail waits for i. -/
def tailAfter (md : Region.Mode) (ops : Array Oper) (tl : List Nat) (i : Nat) : Bool :=
  tl.all fun j => match ops[j]? with
    | some oj => oj.after.toList.any fun e => Region.binds md e && Nat.beq e.on i
    | none => true

section
variable (P : Program) (n : Nat) (D : List Deferred) (X : List Nat) (w0 : World)
def GA (Q : Exit → Act → World → Prop) (ops : Array Oper) (tl : List Nat) (fuel : Nat) (listed : Array Bool) (E : Env) (M : List Blk) : Prop :=
  ∀ a w, St n D X w0 E M a w → wpAnyT P .any ops Q (SL X [] w0) (inB tl) fuel (SL X M w0) listed a w
/-- The step of operation i. -/
def GO (Q : Exit → Act → World → Prop) (ops : Array Oper) (tl : List Nat) (fuel : Nat) (listed : Array Bool) (i : Nat) (E : Env) (M : List Blk) : Prop :=
  ∀ a w, St n D X w0 E M a w → wpOp P ops Q i (fun a' w' => (bif inB tl i then SL X [] w0 else SL X M w0) w' ∧ wpAnyT P .any ops Q (SL X [] w0) (inB tl) fuel (bif inB tl i then SL X [] w0 else SL X M w0) (listed.setIfInBounds i true) a' w') a w
end

section
variable {P : Program} {n : Nat} {D : List Deferred} {X : List Nat} {w0 : World} {Q : Exit → Act → World → Prop} {E : Env} {M : List Blk} {ops : Array Oper} {tl : List Nat} {fuel : Nat} {listed : Array Bool}

theorem G_draw {id : Nat} {l : List Oper} (tl : List Nat) (N : Nat) (hN : l.length = N) (hm : P.follows .mixedOrders = true) (h : GA P n D X w0 Q l.toArray tl N (Array.replicate N false) E M) :
    G P n D X w0 Q (.region id l.toArray true) E M := fun a w s => by
  subst hN
  have h' := wpAny_of_T _ _ _ _ _ (h a { w with drawn := w.drawn + 1 } ⟨s.1, s.2.drew _⟩)
  refine wp_region_any hm ?_
  simpa using h'

theorem GA_y (i : Nat) {d : Tmp} {op : Op} {tt : TypeId} {pos : String} {af : Array Edge} {g : Option (Nat × Bool)} {v : Value} (hi : ops[i]? = some ⟨some d, op, tt, pos, af, g⟩) (hs : Region.noSelect ops = true)
    (hf : Region.free .any ops listed i = true) (hr : (Region.ready .any ops listed).contains i = true) (hQ : ∀ c a w, Q (.panic c) (a.put (some d) v) w → Q (.panic c) a w)
    (ht : inB tl i = false) (hw : wantG ops E g = some true) (hd : Nat.blt d n = true) (hy : Yl P n D X w0 E [] op tt v)
    (k : GA P n D X w0 Q ops tl fuel (listed.setIfInBounds i true) ((d, v) :: E) M) : GA P n D X w0 Q ops tl (fuel + 1) listed E M := fun a w s => by
  refine wpAnyT_pure (oi := ⟨some d, op, tt, pos, af, g⟩) (v := v) hi (Region.noSelect_spec hs) hQ ht fuel _ (fun w h => h.nil) listed a w (Region.free_spec hi hf) (by simpa using hr) ?_ s.2
    (k _ _ ⟨s.1.put (dst := some d) hd v, s.2⟩)
  exact .inl ⟨wantG_ok (o := ⟨some d, op, tt, pos, af, g⟩) s.1 hw, fun w' hs' => hy a w' ⟨s.1, hs'⟩ _ _ _ _⟩
theorem GA_skip (i : Nat) {d : Tmp} {op : Op} {tt : TypeId} {pos : String} {af : Array Edge} {g : Option (Nat × Bool)} (hi : ops[i]? = some ⟨some d, op, tt, pos, af, g⟩) (hs : Region.noSelect ops = true)
    (hf : Region.free .any ops listed i = true) (hr : (Region.ready .any ops listed).contains i = true) (hQ : ∀ c a w, Q (.panic c) (a.put (some d) undef) w → Q (.panic c) a w)
    (ht : inB tl i = false) (hw : wantG ops E g = some false) (hd : Nat.blt d n = true)
    (k : GA P n D X w0 Q ops tl fuel (listed.setIfInBounds i true) ((d, undef) :: E) M) : GA P n D X w0 Q ops tl (fuel + 1) listed E M := fun a w s => by
  refine wpAnyT_pure (oi := ⟨some d, op, tt, pos, af, g⟩) (v := undef) hi (Region.noSelect_spec hs) hQ ht fuel _ (fun w h => h.nil) listed a w (Region.free_spec hi hf) (by simpa using hr) ?_ s.2
    (k _ _ ⟨s.1.put (dst := some d) hd undef, s.2⟩)
  exact .inr ⟨wantG_ok (o := ⟨some d, op, tt, pos, af, g⟩) s.1 hw, rfl⟩
/-- A reading operation. -/
theorem GA_l (i : Nat) {d : Tmp} {op : Op} {tt : TypeId} {pos : String} {af : Array Edge} {g : Option (Nat × Bool)} {v : Value} (hi : ops[i]? = some ⟨some d, op, tt, pos, af, g⟩) (hs : Region.noSelect ops = true)
    (hf : Region.free .any ops listed i = true) (hr : (Region.ready .any ops listed).contains i = true) (hQ : ∀ c a w, Q (.panic c) (a.put (some d) v) w → Q (.panic c) a w)
    (ht : inB tl i = false) (hta : tailAfter .any ops tl i = true) (hw : wantG ops E g = some true) (hd : Nat.blt d n = true) (hy : Yl P n D X w0 E M op tt v)
    (k : GA P n D X w0 Q ops tl fuel (listed.setIfInBounds i true) ((d, v) :: E) M) : GA P n D X w0 Q ops tl (fuel + 1) listed E M := fun a w s => by
  have hta' : ∀ j oj, ops[j]? = some oj → inB tl j = true → ∃ e ∈ oj.after, Region.binds .any e = true ∧ e.on = i := fun j oj hj hin => by
    obtain ⟨x, hx, hb⟩ := List.any_eq_true.1 hin
    have : j = x := Nat.eq_of_beq_eq_true hb
    subst this
    have h1 := List.all_eq_true.1 hta j hx
    rw [hj] at h1
    obtain ⟨e, he, hb⟩ := List.any_eq_true.1 h1
    simp only [Bool.and_eq_true] at hb
    exact ⟨e, by simpa using he, hb.1, Nat.eq_of_beq_eq_true hb.2⟩
  refine wpAnyT_first (oi := ⟨some d, op, tt, pos, af, g⟩) (v := v) hi (Region.noSelect_spec hs) hQ ht hta' fuel listed a w (Region.free_spec hi hf) (by simpa using hr) ?_ s.2
    (k _ _ ⟨s.1.put (dst := some d) hd v, s.2⟩)
  exact .inl ⟨wantG_ok (o := ⟨some d, op, tt, pos, af, g⟩) s.1 hw, fun w' hs' => hy a w' ⟨s.1, hs'⟩ _ _ _ _⟩
theorem GA_done (hr : Region.ready .any ops listed = []) (h : R n D X w0 Q .normal E M) : GA P n D X w0 Q ops tl fuel listed E M := fun a w s => by
  cases fuel with
  | zero => exact ⟨hr, h a w s⟩
  | succ f => exact ⟨fun _ => h a w s, by rw [hr]; simp⟩
def AllO (p : Nat → Prop) : List Nat → Prop
  | [] => True
  | i :: r => p i ∧ AllO p r
theorem AllO.all {p : Nat → Prop} : ∀ {l : List Nat}, AllO p l → ∀ i ∈ l, p i
  | [], _, i, h => by simp at h
  | j :: r, h, i, hi => by
    rcases List.mem_cons.1 hi with rfl | hi
    · exact h.1
    · exact AllO.all h.2 i hi
/-- Whichever of those that may come up. -/
theorem GA_all (rs : List Nat) (hr : Region.ready .any ops listed = rs) (hne : rs.isEmpty = false) (h : AllO (fun i => GO P n D X w0 Q ops tl fuel listed i E M) rs) : GA P n D X w0 Q ops tl (fuel + 1) listed E M := fun a w s =>
  ⟨fun h0 => by rw [hr] at h0; rw [h0] at hne; simp at hne, fun i hi => AllO.all h i (hr ▸ hi) a w s⟩
theorem GA_one (i : Nat) (hr : Region.ready .any ops listed = [i]) (h : GO P n D X w0 Q ops tl fuel listed i E M) : GA P n D X w0 Q ops tl (fuel + 1) listed E M :=
  GA_all [i] hr rfl ⟨h, trivial⟩
/-- Behind an operation that kept M's facts. -/
theorem GO_post {i : Nat} {E' : Env} {M' M2 : List Blk} (ht : inB tl i = false) (hM : Pick M' M M2) (k : GA P n D X w0 Q ops tl fuel (listed.setIfInBounds i true) E' M') :
    ∀ a w, St n D X w0 E' M' a w → (bif inB tl i then SL X [] w0 else SL X M w0) w ∧ wpAnyT P .any ops Q (SL X [] w0) (inB tl) fuel (bif inB tl i then SL X [] w0 else SL X M w0) (listed.setIfInBounds i true) a w := fun a w s => by
  rw [ht]
  exact ⟨s.2.pick hM, wpAnyT_mono _ _ _ (fun w h => h.pick hM) _ _ _ (k a w s)⟩
theorem GO_tail {i : Nat} {E' : Env} {M' : List Blk} (ht : inB tl i = true) (k : GA P n D X w0 Q ops tl fuel (listed.setIfInBounds i true) E' M') :
    ∀ a w, St n D X w0 E' M' a w → (bif inB tl i then SL X [] w0 else SL X M w0) w ∧ wpAnyT P .any ops Q (SL X [] w0) (inB tl) fuel (bif inB tl i then SL X [] w0 else SL X M w0) (listed.setIfInBounds i true) a w := fun a w s => by
  rw [ht]
  exact ⟨s.2.nil, wpAnyT_mono _ _ _ (fun w h => h.nil) _ _ _ (k a w s)⟩
theorem GO_w {i : Nat} {d : Tmp} {op : Op} {tt : TypeId} {pos : String} {af : Array Edge} {g : Option (Nat × Bool)} (hi : ops[i]? = some ⟨some d, op, tt, pos, af, g⟩) (ht : inB tl i = false)
    (hw : wantG ops E g = some true) (hd : Nat.blt d n = true)
    (hy : Wr P n D X w0 E M op tt fun v M' => (∃ M2, Pick M' M M2) ∧ GA P n D X w0 Q ops tl fuel (listed.setIfInBounds i true) ((d, v) :: E) M') : GO P n D X w0 Q ops tl fuel listed i E M := fun a w s => by
  unfold wpOp
  rw [hi]
  simp only [wantG_ok (o := ⟨some d, op, tt, pos, af, g⟩) s.1 hw, if_true]
  refine .inl ?_
  unfold Oper.wp
  obtain ⟨v, w', M', hrun, hs, ⟨M2, hM⟩, k⟩ := hy a w s (some d) pos af g
  rw [hrun]
  exact GO_post ht hM k _ _ ⟨s.1.put (dst := some d) hd v, hs⟩
theorem GO_wt {i : Nat} {d : Tmp} {op : Op} {tt : TypeId} {pos : String} {af : Array Edge} {g : Option (Nat × Bool)} (hi : ops[i]? = some ⟨some d, op, tt, pos, af, g⟩) (ht : inB tl i = true)
    (hw : wantG ops E g = some true) (hd : Nat.blt d n = true)
    (hy : Wr P n D X w0 E M op tt fun v M' => GA P n D X w0 Q ops tl fuel (listed.setIfInBounds i true) ((d, v) :: E) M') : GO P n D X w0 Q ops tl fuel listed i E M := fun a w s => by
  unfold wpOp
  rw [hi]
  simp only [wantG_ok (o := ⟨some d, op, tt, pos, af, g⟩) s.1 hw, if_true]
  refine .inl ?_
  unfold Oper.wp
  obtain ⟨v, w', M', hrun, hs, k⟩ := hy a w s (some d) pos af g
  rw [hrun]
  exact GO_tail ht k _ _ ⟨s.1.put (dst := some d) hd v, hs⟩
theorem GO_s {i : Nat} {op : Op} {tt : TypeId} {pos : String} {af : Array Edge} {g : Option (Nat × Bool)} {M' : List Blk} (hi : ops[i]? = some ⟨none, op, tt, pos, af, g⟩) (ht : inB tl i = true)
    (hw : wantG ops E g = some true) (hy : Sr P n D X w0 E M op tt M') (k : GA P n D X w0 Q ops tl fuel (listed.setIfInBounds i true) E M') : GO P n D X w0 Q ops tl fuel listed i E M := fun a w s => by
  unfold wpOp
  rw [hi]
  simp only [wantG_ok (o := ⟨none, op, tt, pos, af, g⟩) s.1 hw, if_true]
  refine .inl ?_
  unfold Oper.wp
  obtain ⟨w', hrun, hs⟩ := hy a w s none pos af g
  rw [hrun]
  exact GO_tail ht k _ _ ⟨s.1, hs⟩
/-- An operation that yields a value, when it comes up. -/
theorem GO_y {i : Nat} {d : Tmp} {op : Op} {tt : TypeId} {pos : String} {af : Array Edge} {g : Option (Nat × Bool)} {v : Value} (hi : ops[i]? = some ⟨some d, op, tt, pos, af, g⟩)
    (hw : wantG ops E g = some true) (hd : Nat.blt d n = true) (hy : Yl P n D X w0 E M op tt v) (k : GA P n D X w0 Q ops tl fuel (listed.setIfInBounds i true) ((d, v) :: E) M) : GO P n D X w0 Q ops tl fuel listed i E M := fun a w s => by
  unfold wpOp
  rw [hi]
  simp only [wantG_ok (o := ⟨some d, op, tt, pos, af, g⟩) s.1 hw, if_true]
  refine .inl ?_
  unfold Oper.wp
  rw [hy a w s]
  have s' : St n D X w0 ((d, v) :: E) M (a.put (some d) v) w := ⟨s.1.put (dst := some d) hd v, s.2⟩
  cases ht : inB tl i with
  | true => exact ⟨s.2.nil, wpAnyT_mono _ _ _ (fun w h => h.nil) _ _ _ (k _ _ s')⟩
  | false => exact ⟨s.2, k _ _ s'⟩
/-- A call, where it comes up: A: the blocks that it works on; none of them is one that the region still reads (Rd: the facts that go on). -/
theorem GO_call {i : Nat} {d : Tmp} {x : Operand} {xs : Array Operand} {ts : Array TypeId} {tt : TypeId} {pos : String} {af : Array Edge} {g : Option (Nat × Bool)} {f : FuncId} {cap args : List Value}
    {K : Value → List Blk → Prop} (hi : ops[i]? = some ⟨some d, .call ⟨.value x, xs, ts⟩, tt, pos, af, g⟩) (ht : inB tl i = false)
    (hw : wantG ops E g = some true) (hd : Nat.blt d n = true) (hf : ev E x = some (.func (.func f) #[] cap.toArray)) (hargs : evL E xs.toList = some args)
    (hb : ∀ as w, (callFunc f as).run P w = .ok (.enter f as) w)
    (hc : ∀ w, SL X M w0 w → FnAt P f (args ++ cap) [] w (Ret K))
    (k : ∀ v N, K v N → GA P n D X w0 Q ops tl fuel (listed.setIfInBounds i true) ((d, v) :: E) (N ++ M)) : GO P n D X w0 Q ops tl fuel listed i E M := fun a w s => by
  unfold wpOp
  rw [hi]
  simp only [wantG_ok (o := ⟨some d, .call ⟨.value x, xs, ts⟩, tt, pos, af, g⟩) s.1 hw, if_true]
  refine .inl ?_
  unfold Oper.wp
  have hx := s.1.ev hf
  have ha : xs.map a.eval = args.toArray := by
    have := s.1.evL hargs
    rw [← this, ← Array.toList_map]
  have hrun : (execOp a.eval ⟨some d, .call ⟨.value x, xs, ts⟩, tt, pos, af, g⟩).run P w = .ok (.enter f (args ++ cap).toArray) w := by
    simp [execOp, resolve, hx, ha, Deferred.ofValue, invoke, hb]
  rw [hrun, Oper.upon_enter]
  have hsA : SL (([] : List Blk).map (·.b)) [] w w := ⟨rfl, rfl, rfl, Nat.le_refl _, fun _ _ _ => rfl, List.nodup_nil, fun j hj => by simp at hj, fun j hj => by simp at hj⟩
  refine (hc w s.2 hsA).mono fun e w' ⟨N, hN, hs⟩ => ?_
  cases e with
  | returned v =>
    have hcall := s.2.call (A := []) .nil hs
    have hperm : SL X (M ++ N) w0 w' := hcall.perm List.perm_append_comm
    have s' : St n D X w0 ((d, v) :: E) (N ++ M) (a.put (some d) v) w' := ⟨s.1.put (dst := some d) hd v, hcall⟩
    show (bif inB tl i then SL X [] w0 else SL X M w0) w' ∧ wpAnyT P .any ops Q (SL X [] w0) (inB tl) fuel (bif inB tl i then SL X [] w0 else SL X M w0) (listed.setIfInBounds i true) (a.put (some d) v) w'
    rw [ht]
    exact ⟨hperm.left, wpAnyT_mono _ _ _ (fun w h => (h.perm List.perm_append_comm).left) _ _ _ (k v N hN _ _ s')⟩
  | panicked c => exact hN.elim
  | outgrown => exact hN.elim
end
end Go.Sl

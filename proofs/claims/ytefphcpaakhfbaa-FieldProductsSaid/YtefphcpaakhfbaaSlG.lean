/-
  Regions that draw their order, again: only the blocks Mr are read by what is not in order; calls and stores may work on the others.
-/
import Derived.Test.YtefphcpaakhfbaaSlC
namespace Go.Sl
open Go Go.RowKit
section
variable (P : Program) (n : Nat) (D : List Deferred) (X : List Nat) (w0 : World) (Mr : List Blk)
def GB (Q : Exit → Act → World → Prop) (ops : Array Oper) (fuel : Nat) (listed : Array Bool) (E : Env) (M : List Blk) : Prop :=
  (∃ M2, Pick M Mr M2) → ∀ a w, St n D X w0 E M a w → wpAnyT P .any ops Q (SL X [] w0) (inB []) fuel (SL X Mr w0) listed a w
def HO (Q : Exit → Act → World → Prop) (ops : Array Oper) (fuel : Nat) (listed : Array Bool) (i : Nat) (E : Env) (M : List Blk) : Prop :=
  (∃ M2, Pick M Mr M2) → ∀ a w, St n D X w0 E M a w → wpOp P ops Q i (fun a' w' => SL X Mr w0 w' ∧ wpAnyT P .any ops Q (SL X [] w0) (inB []) fuel (SL X Mr w0) (listed.setIfInBounds i true) a' w') a w
end
section
variable {P : Program} {n : Nat} {D : List Deferred} {X : List Nat} {w0 : World} {Mr : List Blk} {Q : Exit → Act → World → Prop} {E : Env} {M : List Blk} {ops : Array Oper} {fuel : Nat} {listed : Array Bool}
theorem G_drawB {id : Nat} {l : List Oper} (Mr : List Blk) (N : Nat) (hN : l.length = N) (hm : P.follows .mixedOrders = true) (hM : ∃ M2, Pick M Mr M2) (h : GB P n D X w0 Mr Q l.toArray N (Array.replicate N false) E M) :
    G P n D X w0 Q (.region id l.toArray true) E M := fun a w s => by
  subst hN
  have h' := wpAny_of_T _ _ _ _ _ (h hM a { w with drawn := w.drawn + 1 } ⟨s.1, s.2.drew _⟩)
  refine wp_region_any hm ?_
  simpa using h'
theorem GB_y (i : Nat) {d : Tmp} {op : Op} {tt : TypeId} {pos : String} {af : Array Edge} {g : Option (Nat × Bool)} {v : Value} (hi : ops[i]? = some ⟨some d, op, tt, pos, af, g⟩) (hs : Region.noSelect ops = true)
    (hf : Region.free .any ops listed i = true) (hr : (Region.ready .any ops listed).contains i = true) (hQ : ∀ c a w, Q (.panic c) (a.put (some d) v) w → Q (.panic c) a w)
    (hw : wantG ops E g = some true) (hd : Nat.blt d n = true) (hy : Yl P n D X w0 E [] op tt v)
    (k : GB P n D X w0 Mr Q ops fuel (listed.setIfInBounds i true) ((d, v) :: E) M) : GB P n D X w0 Mr Q ops (fuel + 1) listed E M := fun hp a w s => by
  obtain ⟨M2, hp'⟩ := hp
  refine wpAnyT_pure (oi := ⟨some d, op, tt, pos, af, g⟩) (v := v) hi (Region.noSelect_spec hs) hQ rfl fuel _ (fun w h => h.nil) listed a w (Region.free_spec hi hf) (by simpa using hr) ?_ (s.2.pick hp')
    (k ⟨M2, hp'⟩ _ _ ⟨s.1.put (dst := some d) hd v, s.2⟩)
  exact .inl ⟨wantG_ok (o := ⟨some d, op, tt, pos, af, g⟩) s.1 hw, fun w' hs' => hy a w' ⟨s.1, hs'⟩ _ _ _ _⟩
theorem GB_l (i : Nat) {d : Tmp} {op : Op} {tt : TypeId} {pos : String} {af : Array Edge} {g : Option (Nat × Bool)} {v : Value} (hi : ops[i]? = some ⟨some d, op, tt, pos, af, g⟩) (hs : Region.noSelect ops = true)
    (hf : Region.free .any ops listed i = true) (hr : (Region.ready .any ops listed).contains i = true) (hQ : ∀ c a w, Q (.panic c) (a.put (some d) v) w → Q (.panic c) a w)
    (hw : wantG ops E g = some true) (hd : Nat.blt d n = true) (hy : Yl P n D X w0 E Mr op tt v)
    (k : GB P n D X w0 Mr Q ops fuel (listed.setIfInBounds i true) ((d, v) :: E) M) : GB P n D X w0 Mr Q ops (fuel + 1) listed E M := fun hp a w s => by
  obtain ⟨M2, hp'⟩ := hp
  refine wpAnyT_first (oi := ⟨some d, op, tt, pos, af, g⟩) (v := v) hi (Region.noSelect_spec hs) hQ rfl (fun j oj _ h => by cases h) fuel listed a w (Region.free_spec hi hf) (by simpa using hr) ?_ (s.2.pick hp')
    (k ⟨M2, hp'⟩ _ _ ⟨s.1.put (dst := some d) hd v, s.2⟩)
  exact .inl ⟨wantG_ok (o := ⟨some d, op, tt, pos, af, g⟩) s.1 hw, fun w' hs' => hy a w' ⟨s.1, hs'⟩ _ _ _ _⟩
theorem GB_skip (i : Nat) {d : Tmp} {op : Op} {tt : TypeId} {pos : String} {af : Array Edge} {g : Option (Nat × Bool)} (hi : ops[i]? = some ⟨some d, op, tt, pos, af, g⟩) (hs : Region.noSelect ops = true)
    (hf : Region.free .any ops listed i = true) (hr : (Region.ready .any ops listed).contains i = true) (hQ : ∀ c a w, Q (.panic c) (a.put (some d) undef) w → Q (.panic c) a w)
    (hw : wantG ops E g = some false) (hd : Nat.blt d n = true)
    (k : GB P n D X w0 Mr Q ops fuel (listed.setIfInBounds i true) ((d, undef) :: E) M) : GB P n D X w0 Mr Q ops (fuel + 1) listed E M := fun hp a w s => by
  obtain ⟨M2, hp'⟩ := hp
  refine wpAnyT_pure (oi := ⟨some d, op, tt, pos, af, g⟩) (v := undef) hi (Region.noSelect_spec hs) hQ rfl fuel _ (fun w h => h.nil) listed a w (Region.free_spec hi hf) (by simpa using hr) ?_ (s.2.pick hp')
    (k ⟨M2, hp'⟩ _ _ ⟨s.1.put (dst := some d) hd undef, s.2⟩)
  exact .inr ⟨wantG_ok (o := ⟨some d, op, tt, pos, af, g⟩) s.1 hw, rfl⟩
theorem GB_done (hr : Region.ready .any ops listed = []) (h : R n D X w0 Q .normal E M) : GB P n D X w0 Mr Q ops fuel listed E M := fun _ a w s => by
  cases fuel with
  | zero => exact ⟨hr, h a w s⟩
  | succ f => exact ⟨fun _ => h a w s, by rw [hr]; simp⟩
theorem GB_all (rs : List Nat) (hr : Region.ready .any ops listed = rs) (hne : rs.isEmpty = false) (h : AllO (fun i => HO P n D X w0 Mr Q ops fuel listed i E M) rs) : GB P n D X w0 Mr Q ops (fuel + 1) listed E M := fun hp a w s =>
  ⟨fun h0 => by rw [hr] at h0; rw [h0] at hne; simp at hne, fun i hi => AllO.all h i (hr ▸ hi) hp a w s⟩
theorem GB_one (i : Nat) (hr : Region.ready .any ops listed = [i]) (h : HO P n D X w0 Mr Q ops fuel listed i E M) : GB P n D X w0 Mr Q ops (fuel + 1) listed E M := GB_all [i] hr rfl ⟨h, trivial⟩
theorem GB_bool (d : Nat) {b : Bool} (hg : Env.get E d = some (.bool b)) (ht : b = true → GB P n D X w0 Mr Q ops fuel listed ((d, .bool true) :: E) M)
    (hf : b = false → GB P n D X w0 Mr Q ops fuel listed ((d, .bool false) :: E) M) : GB P n D X w0 Mr Q ops fuel listed E M := fun hp a w s => by
  cases b with
  | true => exact ht rfl hp a w (s.set d hg)
  | false => exact hf rfl hp a w (s.set d hg)
theorem GB_set (d : Nat) {v : Value} (v' : Value) (hg : Env.get E d = some v) (e : v = v') (h : GB P n D X w0 Mr Q ops fuel listed ((d, v') :: E) M) : GB P n D X w0 Mr Q ops fuel listed E M := fun hp a w s => by
  subst e; exact h hp a w (s.set d hg)
theorem HO_y {i : Nat} {d : Tmp} {op : Op} {tt : TypeId} {pos : String} {af : Array Edge} {g : Option (Nat × Bool)} {v : Value} (hi : ops[i]? = some ⟨some d, op, tt, pos, af, g⟩)
    (hw : wantG ops E g = some true) (hd : Nat.blt d n = true) (hy : Yl P n D X w0 E M op tt v) (k : GB P n D X w0 Mr Q ops fuel (listed.setIfInBounds i true) ((d, v) :: E) M) : HO P n D X w0 Mr Q ops fuel listed i E M := fun hp a w s => by
  unfold wpOp
  rw [hi]
  simp only [wantG_ok (o := ⟨some d, op, tt, pos, af, g⟩) s.1 hw, if_true]
  refine .inl ?_
  unfold Oper.wp
  rw [hy a w s]
  obtain ⟨M2, hp'⟩ := hp
  exact ⟨s.2.pick hp', k ⟨M2, hp'⟩ _ _ ⟨s.1.put (dst := some d) hd v, s.2⟩⟩
theorem HO_w {i : Nat} {d : Tmp} {op : Op} {tt : TypeId} {pos : String} {af : Array Edge} {g : Option (Nat × Bool)} (hi : ops[i]? = some ⟨some d, op, tt, pos, af, g⟩)
    (hw : wantG ops E g = some true) (hd : Nat.blt d n = true)
    (hy : Wr P n D X w0 E M op tt fun v M' => (∃ M2, Pick M' Mr M2) ∧ GB P n D X w0 Mr Q ops fuel (listed.setIfInBounds i true) ((d, v) :: E) M') : HO P n D X w0 Mr Q ops fuel listed i E M := fun _ a w s => by
  unfold wpOp
  rw [hi]
  simp only [wantG_ok (o := ⟨some d, op, tt, pos, af, g⟩) s.1 hw, if_true]
  refine .inl ?_
  unfold Oper.wp
  obtain ⟨v, w', M', hrun, hs, ⟨M2, hM⟩, k⟩ := hy a w s (some d) pos af g
  rw [hrun]
  exact ⟨hs.pick hM, k ⟨M2, hM⟩ _ _ ⟨s.1.put (dst := some d) hd v, hs⟩⟩
theorem HO_s {i : Nat} {op : Op} {tt : TypeId} {pos : String} {af : Array Edge} {g : Option (Nat × Bool)} {M' : List Blk} (hi : ops[i]? = some ⟨none, op, tt, pos, af, g⟩)
    (hw : wantG ops E g = some true) (hy : Sr P n D X w0 E M op tt M') (hM : ∃ M2, Pick M' Mr M2) (k : GB P n D X w0 Mr Q ops fuel (listed.setIfInBounds i true) E M') : HO P n D X w0 Mr Q ops fuel listed i E M := fun _ a w s => by
  unfold wpOp
  rw [hi]
  simp only [wantG_ok (o := ⟨none, op, tt, pos, af, g⟩) s.1 hw, if_true]
  refine .inl ?_
  unfold Oper.wp
  obtain ⟨w', hrun, hs⟩ := hy a w s none pos af g
  rw [hrun]
  obtain ⟨M2, hM'⟩ := hM
  exact ⟨hs.pick hM', k ⟨M2, hM'⟩ _ _ ⟨s.1, hs⟩⟩
theorem HO_call {i : Nat} {d : Tmp} {x : Operand} {xs : Array Operand} {ts : Array TypeId} {tt : TypeId} {pos : String} {af : Array Edge} {g : Option (Nat × Bool)} {f : FuncId} {cap args : List Value} {A M1 : List Blk}
    {K : Value → List Blk → Prop} (hi : ops[i]? = some ⟨some d, .call ⟨.value x, xs, ts⟩, tt, pos, af, g⟩)
    (hw : wantG ops E g = some true) (hd : Nat.blt d n = true) (hf : ev E x = some (.func (.func f) #[] cap.toArray)) (hargs : evL E xs.toList = some args)
    (hb : ∀ as w, (callFunc f as).run P w = .ok (.enter f as) w) (hA : Pick M A M1) (hR : ∃ M2, Pick M1 Mr M2)
    (hc : ∀ w, SL X M w0 w → FnAt P f (args ++ cap) A w (Ret K))
    (k : ∀ v N, K v N → GB P n D X w0 Mr Q ops fuel (listed.setIfInBounds i true) ((d, v) :: E) (N ++ M1)) : HO P n D X w0 Mr Q ops fuel listed i E M := fun _ a w s => by
  unfold wpOp
  rw [hi]
  simp only [wantG_ok (o := ⟨some d, .call ⟨.value x, xs, ts⟩, tt, pos, af, g⟩) s.1 hw, if_true]
  refine .inl ?_
  unfold Oper.wp
  have hx := s.1.ev hf
  have ha : xs.map a.eval = args.toArray := by
    have := s.1.evL hargs
    rw [← this, ← Array.toList_map]
  have hrun : (execOp a.eval ⟨some d, .call ⟨.value x, xs, ts⟩, tt, pos, af, g⟩).run P w = .ok (.enter f (args ++ cap).toArray) w := by
    simp [execOp, resolve, hx, ha, Deferred.ofValue, invoke, hb]
  rw [hrun, Oper.upon_enter]
  have hsA : SL (A.map (·.b)) A w w := by
    have sA := s.2.pick hA
    exact ⟨rfl, rfl, rfl, Nat.le_refl _, fun _ _ _ => rfl, sA.nodup, fun j hj => .inl (List.mem_map_of_mem hj), sA.mem⟩
  refine (hc w s.2 hsA).mono fun e w' ⟨N, hN, hs⟩ => ?_
  cases e with
  | returned v =>
    have hcall := s.2.call hA hs
    obtain ⟨M2, hR'⟩ := hR
    have hp : Pick (N ++ M1) Mr (N ++ M2) := hR'.under N
    exact ⟨hcall.pick hp, k v N hN ⟨_, hp⟩ _ _ ⟨s.1.put (dst := some d) hd v, hcall⟩⟩
  | panicked c => exact hN.elim
  | outgrown => exact hN.elim
theorem HO_callP {i : Nat} {d : Tmp} {x : Operand} {xs : Array Operand} {ts : Array TypeId} {tt : TypeId} {pos : String} {af : Array Edge} {g : Option (Nat × Bool)} {f : FuncId} {cap args : List Value} {A M1 : List Blk}
    {Post : Ending → List Blk → Prop} (hi : ops[i]? = some ⟨some d, .call ⟨.value x, xs, ts⟩, tt, pos, af, g⟩)
    (hw : wantG ops E g = some true) (hd : Nat.blt d n = true) (hf : ev E x = some (.func (.func f) #[] cap.toArray)) (hargs : evL E xs.toList = some args)
    (hb : ∀ as w, (callFunc f as).run P w = .ok (.enter f as) w) (hA : Pick M A M1) (hR : ∃ M2, Pick M1 Mr M2)
    (hc : ∀ w, SL X M w0 w → FnAt P f (args ++ cap) A w Post)
    (k : ∀ v N, Post (.returned v) N → GB P n D X w0 Mr Q ops fuel (listed.setIfInBounds i true) ((d, v) :: E) (N ++ M1))
    (kp : ∀ c N, Post (.panicked c) N → R n D X w0 Q (.panic c) E (N ++ M1)) (ko : ∀ N, ¬ Post .outgrown N) : HO P n D X w0 Mr Q ops fuel listed i E M := fun _ a w s => by
  unfold wpOp
  rw [hi]
  simp only [wantG_ok (o := ⟨some d, .call ⟨.value x, xs, ts⟩, tt, pos, af, g⟩) s.1 hw, if_true]
  refine .inl ?_
  unfold Oper.wp
  have hx := s.1.ev hf
  have ha : xs.map a.eval = args.toArray := by
    have := s.1.evL hargs
    rw [← this, ← Array.toList_map]
  have hrun : (execOp a.eval ⟨some d, .call ⟨.value x, xs, ts⟩, tt, pos, af, g⟩).run P w = .ok (.enter f (args ++ cap).toArray) w := by
    simp [execOp, resolve, hx, ha, Deferred.ofValue, invoke, hb]
  rw [hrun, Oper.upon_enter]
  have hsA : SL (A.map (·.b)) A w w := by
    have sA := s.2.pick hA
    exact ⟨rfl, rfl, rfl, Nat.le_refl _, fun _ _ _ => rfl, sA.nodup, fun j hj => .inl (List.mem_map_of_mem hj), sA.mem⟩
  refine (hc w s.2 hsA).mono fun e w' ⟨N, hN, hs⟩ => ?_
  cases e with
  | returned v =>
    have hcall := s.2.call hA hs
    obtain ⟨M2, hR'⟩ := hR
    have hp : Pick (N ++ M1) Mr (N ++ M2) := hR'.under N
    exact ⟨hcall.pick hp, k v N hN ⟨_, hp⟩ _ _ ⟨s.1.put (dst := some d) hd v, hcall⟩⟩
  | panicked c => exact kp c N hN _ _ ⟨s.1, s.2.call hA hs⟩
  | outgrown => exact (ko N hN).elim
end
end Go.Sl

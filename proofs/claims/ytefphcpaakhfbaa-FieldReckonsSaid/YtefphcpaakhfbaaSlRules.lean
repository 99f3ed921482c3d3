/-
  The logic's rules, one an operation: what yields a value and leaves the world as it is (Yl), what works on blocks (Wr), stores (Sr), calls.
-/
import Derived.Test.YtefphcpaakhfbaaSlOps
namespace Go.Sl
open Go Go.RowKit

/-! ## Guards -/
def wantG (ops : Array Oper) (E : Env) : Option (Nat × Bool) → Option Bool
  | none => some true
  | some (j, want) => match (ops[j]?).bind (·.dst) with
    | some d => match Env.get E d with
      | some (.bool b) => some (b == want)
      | some _ => some false
      | none => none
    | none => none
theorem wantG_ok {n : Nat} {D : List Deferred} {E : Env} {a : Act} (h : Ok n D E a) {ops : Array Oper} {o : Oper} {b : Bool} (hw : wantG ops E o.guard = some b) :
    Region.wanted o (yielded ops a.tmps) = b := by
  unfold wantG at hw
  unfold Region.wanted
  cases hg : o.guard with
  | none => rw [hg] at hw; simpa using hw
  | some p =>
    obtain ⟨j, want⟩ := p
    rw [hg] at hw
    simp only at hw ⊢
    unfold yielded
    cases hd : (ops[j]?).bind (·.dst) with
    | none => rw [hd] at hw; cases hw
    | some d =>
      rw [hd] at hw
      simp only at hw
      cases he : Env.get E d with
      | none => rw [he] at hw; cases hw
      | some v =>
        have hv := h.get d v he
        rw [he] at hw
        simp only [Option.bind_some, hv]
        cases v <;> simp at hw <;> simp_all <;> first | done | (cases want <;> simp_all)

section
variable (P : Program) (n : Nat) (D : List Deferred) (X : List Nat) (w0 : World)
/-- In this state the operation yields v and does nothing else. -/
def Yl (E : Env) (M : List Blk) (op : Op) (tt : TypeId) (v : Value) : Prop :=
  ∀ a w, St n D X w0 E M a w → ∀ d pos af g, (execOp a.eval ⟨d, op, tt, pos, af, g⟩).run P w = .ok (.value v) w
/-- In this state the operation yields a value and leaves blocks of which K holds. -/
def Wr (E : Env) (M : List Blk) (op : Op) (tt : TypeId) (K : Value → List Blk → Prop) : Prop :=
  ∀ a w, St n D X w0 E M a w → ∀ d pos af g, ∃ v w' M', (execOp a.eval ⟨d, op, tt, pos, af, g⟩).run P w = .ok (.value v) w' ∧ SL X M' w0 w' ∧ K v M'
/-- In this state the operation yields nothing and leaves the blocks M'. -/
def Sr (E : Env) (M : List Blk) (op : Op) (tt : TypeId) (M' : List Blk) : Prop :=
  ∀ a w, St n D X w0 E M a w → ∀ d pos af g, ∃ w', (execOp a.eval ⟨d, op, tt, pos, af, g⟩).run P w = .ok .skip w' ∧ SL X M' w0 w'
end

/-- What a call does: from the blocks A it comes to an ending and the blocks N; nothing else that was there has turned. -/
def FnAt (P : Program) (f : FuncId) (args : List Value) (A : List Blk) (w : World) (Post : Ending → List Blk → Prop) : Prop :=
  SL (A.map (·.b)) A w w → Calls P f args.toArray w fun e w' => ∃ N, Post e N ∧ SL (A.map (·.b)) N w w'
/-- It returns. -/
def Ret (K : Value → List Blk → Prop) : Ending → List Blk → Prop
  | .returned v, N => K v N
  | _, _ => False

theorem FnAt.mono {P : Program} {f : FuncId} {args : List Value} {A : List Blk} {w : World} {Q Q' : Ending → List Blk → Prop} (h : FnAt P f args A w Q) (hq : ∀ e N, Q e N → Q' e N) :
    FnAt P f args A w Q' := fun s => (h s).mono fun e _ ⟨N, hN, hs⟩ => ⟨N, hq e N hN, hs⟩

section
variable {P : Program} {n : Nat} {D : List Deferred} {X : List Nat} {w0 : World} {Q : Exit → Act → World → Prop} {E : Env} {M : List Blk} {ops : Array Oper} {rest : List Oper}

/-! ## Lists of operations -/
theorem G_region {id : Nat} {l : List Oper} (h : GL P n D X w0 Q l.toArray l E M) : G P n D X w0 Q (.region id l.toArray false) E M := fun a w s => wp_region_lit (h a w s)
theorem GL_nil (h : R n D X w0 Q .normal E M) : GL P n D X w0 Q ops [] E M := fun a w s => wpList_nil (h a w s)
theorem GL_y {d : Tmp} {op : Op} {tt : TypeId} {pos : String} {af : Array Edge} {g : Option (Nat × Bool)} {v : Value} (hw : wantG ops E g = some true) (hd : Nat.blt d n = true)
    (hy : Yl P n D X w0 E M op tt v) (k : GL P n D X w0 Q ops rest ((d, v) :: E) M) : GL P n D X w0 Q ops (⟨some d, op, tt, pos, af, g⟩ :: rest) E M := fun a w s => by
  unfold wpList
  rw [if_pos (wantG_ok (o := ⟨some d, op, tt, pos, af, g⟩) s.1 hw)]
  refine .inl ?_
  unfold Oper.wp
  rw [hy a w s]
  exact k _ _ ⟨s.1.put (dst := some d) hd v, s.2⟩
theorem GL_w {d : Tmp} {op : Op} {tt : TypeId} {pos : String} {af : Array Edge} {g : Option (Nat × Bool)} (hw : wantG ops E g = some true) (hd : Nat.blt d n = true)
    (hy : Wr P n D X w0 E M op tt fun v M' => GL P n D X w0 Q ops rest ((d, v) :: E) M') : GL P n D X w0 Q ops (⟨some d, op, tt, pos, af, g⟩ :: rest) E M := fun a w s => by
  unfold wpList
  rw [if_pos (wantG_ok (o := ⟨some d, op, tt, pos, af, g⟩) s.1 hw)]
  refine .inl ?_
  unfold Oper.wp
  obtain ⟨v, w', M', hrun, hs, k⟩ := hy a w s (some d) pos af g
  rw [hrun]
  exact k _ _ ⟨s.1.put (dst := some d) hd v, hs⟩
theorem GL_s {op : Op} {tt : TypeId} {pos : String} {af : Array Edge} {g : Option (Nat × Bool)} {M' : List Blk} (hw : wantG ops E g = some true)
    (hy : Sr P n D X w0 E M op tt M') (k : GL P n D X w0 Q ops rest E M') : GL P n D X w0 Q ops (⟨none, op, tt, pos, af, g⟩ :: rest) E M := fun a w s => by
  unfold wpList
  rw [if_pos (wantG_ok (o := ⟨none, op, tt, pos, af, g⟩) s.1 hw)]
  refine .inl ?_
  unfold Oper.wp
  obtain ⟨w', hrun, hs⟩ := hy a w s none pos af g
  rw [hrun]
  exact k _ _ ⟨s.1, hs⟩
theorem GL_skip {d : Tmp} {op : Op} {tt : TypeId} {pos : String} {af : Array Edge} {g : Option (Nat × Bool)} (hw : wantG ops E g = some false) (hd : Nat.blt d n = true)
    (k : GL P n D X w0 Q ops rest ((d, undef) :: E) M) : GL P n D X w0 Q ops (⟨some d, op, tt, pos, af, g⟩ :: rest) E M := fun a w s => by
  unfold wpList
  have hwf := wantG_ok (o := ⟨some d, op, tt, pos, af, g⟩) s.1 hw
  rw [if_neg (by rw [hwf]; simp)]
  exact k _ _ ⟨s.1.put (dst := some d) hd undef, s.2⟩
/-- A slot's bool, decided. -/
theorem GL_bool {l : List Oper} (d : Nat) {b : Bool} (hg : Env.get E d = some (.bool b)) (ht : b = true → GL P n D X w0 Q ops l ((d, .bool true) :: E) M)
    (hf : b = false → GL P n D X w0 Q ops l ((d, .bool false) :: E) M) : GL P n D X w0 Q ops l E M := fun a w s => by
  have hx : ∀ c, b = c → St n D X w0 ((d, .bool c) :: E) M a w := fun c hc => ⟨⟨s.1.size, s.1.defers, fun t v hv => by
    simp only [Env.get] at hv
    cases hb : Nat.beq d t with
    | true =>
      rw [hb] at hv
      have : d = t := Nat.eq_of_beq_eq_true hb
      subst this
      simp at hv
      subst hv
      exact hc ▸ s.1.get d _ hg
    | false => rw [hb] at hv; exact s.1.get t v hv⟩, s.2⟩
  cases b with
  | true => exact ht rfl a w (hx true rfl)
  | false => exact hf rfl a w (hx false rfl)
theorem GL_weak {l : List Oper} {E' : Env} {M' M2 : List Blk} (hE : Has E E') (hM : Pick M M' M2) (h : GL P n D X w0 Q ops l E' M') : GL P n D X w0 Q ops l E M :=
  fun a w s => h a w (s.weak hE hM)

/-! ## A known number of rounds -/
theorem G_rounds {c : Code} (k : Nat) (h : G P n D X w0 (Exit.then (Code.rounds P c Q k) Q) c E M) : G P n D X w0 Q (.loop c) E M := fun a w s => wp_loop_rounds (k + 1) (h a w s)
theorem R_round {c : Code} {k : Nat} (h : G P n D X w0 (Exit.then (Code.rounds P c Q k) Q) c E M) : R n D X w0 (Exit.then (Code.rounds P c Q (k + 1)) Q) .normal E M := fun a w s => h a w s

/-! ## Calls -/
theorem GL_call {d : Tmp} {x : Operand} {xs : Array Operand} {ts : Array TypeId} {tt : TypeId} {pos : String} {af : Array Edge} {g : Option (Nat × Bool)} {f : FuncId} {cap args : List Value}
    {A M1 : List Blk} {K : Value → List Blk → Prop}
    (hw : wantG ops E g = some true) (hd : Nat.blt d n = true) (hf : ev E x = some (.func (.func f) #[] cap.toArray)) (hargs : evL E xs.toList = some args)
    (hb : ∀ as w, (callFunc f as).run P w = .ok (.enter f as) w) (hA : Pick M A M1)
    (hc : ∀ w, SL X M w0 w → FnAt P f (args ++ cap) A w (Ret K))
    (k : ∀ v N, K v N → GL P n D X w0 Q ops rest ((d, v) :: E) (N ++ M1)) :
    GL P n D X w0 Q ops (⟨some d, .call ⟨.value x, xs, ts⟩, tt, pos, af, g⟩ :: rest) E M := fun a w s => by
  unfold wpList
  rw [if_pos (wantG_ok (o := ⟨some d, .call ⟨.value x, xs, ts⟩, tt, pos, af, g⟩) s.1 hw)]
  refine .inl ?_
  unfold Oper.wp
  have hx := s.1.ev hf
  have ha : xs.map a.eval = args.toArray := by
    have := s.1.evL hargs
    rw [← this, ← Array.toList_map]
  have hrun : (execOp a.eval ⟨some d, .call ⟨.value x, xs, ts⟩, tt, pos, af, g⟩).run P w = .ok (.enter f (args ++ cap).toArray) w := by
    simp [execOp, resolve, hx, ha, Deferred.ofValue, invoke, hb]
  rw [hrun, Oper.upon_enter]
  have hsA : SL (A.map (·.b)) A w w := by
    have sA := s.2.pick hA
    exact ⟨rfl, rfl, rfl, Nat.le_refl _, fun _ _ _ => rfl, sA.nodup, fun j hj => .inl (List.mem_map_of_mem hj), sA.mem⟩
  refine (hc w s.2 hsA).mono fun e w' ⟨N, hN, hs⟩ => ?_
  cases e with
  | returned v => exact k v N hN _ _ ⟨s.1.put (dst := some d) hd v, s.2.call hA hs⟩
  | panicked c => exact hN.elim
  | outgrown => exact hN.elim
/-- A call that may panic. -/
theorem GL_callP {d : Tmp} {x : Operand} {xs : Array Operand} {ts : Array TypeId} {tt : TypeId} {pos : String} {af : Array Edge} {g : Option (Nat × Bool)} {f : FuncId} {cap args : List Value}
    {A M1 : List Blk} {Post : Ending → List Blk → Prop}
    (hw : wantG ops E g = some true) (hd : Nat.blt d n = true) (hf : ev E x = some (.func (.func f) #[] cap.toArray)) (hargs : evL E xs.toList = some args)
    (hb : ∀ as w, (callFunc f as).run P w = .ok (.enter f as) w) (hA : Pick M A M1)
    (hc : ∀ w, SL X M w0 w → FnAt P f (args ++ cap) A w Post)
    (k : ∀ v N, Post (.returned v) N → GL P n D X w0 Q ops rest ((d, v) :: E) (N ++ M1))
    (kp : ∀ c N, Post (.panicked c) N → R n D X w0 Q (.panic c) E (N ++ M1))
    (ko : ∀ N, ¬ Post .outgrown N) :
    GL P n D X w0 Q ops (⟨some d, .call ⟨.value x, xs, ts⟩, tt, pos, af, g⟩ :: rest) E M := fun a w s => by
  unfold wpList
  rw [if_pos (wantG_ok (o := ⟨some d, .call ⟨.value x, xs, ts⟩, tt, pos, af, g⟩) s.1 hw)]
  refine .inl ?_
  unfold Oper.wp
  have hx := s.1.ev hf
  have ha : xs.map a.eval = args.toArray := by
    have := s.1.evL hargs
    rw [← this, ← Array.toList_map]
  have hrun : (execOp a.eval ⟨some d, .call ⟨.value x, xs, ts⟩, tt, pos, af, g⟩).run P w = .ok (.enter f (args ++ cap).toArray) w := by
    simp [execOp, resolve, hx, ha, Deferred.ofValue, invoke, hb]
  rw [hrun, Oper.upon_enter]
  have hsA : SL (A.map (·.b)) A w w := by
    have sA := s.2.pick hA
    exact ⟨rfl, rfl, rfl, Nat.le_refl _, fun _ _ _ => rfl, sA.nodup, fun j hj => .inl (List.mem_map_of_mem hj), sA.mem⟩
  refine (hc w s.2 hsA).mono fun e w' ⟨N, hN, hs⟩ => ?_
  cases e with
  | returned v => exact k v N hN _ _ ⟨s.1.put (dst := some d) hd v, s.2.call hA hs⟩
  | panicked c => exact kp c N hN _ _ ⟨s.1, s.2.call hA hs⟩
  | outgrown => exact (ko N hN).elim

/-! ## Functions -/
/-- The post of a function's body. -/
def fnQ (P : Program) (fn : Func) (X : List Nat) (w0 : World) (Post : Ending → List Blk → Prop) : Exit → Act → World → Prop :=
  bodyPost P fn fun e w' => ∃ N, Post e N ∧ SL X N w0 w'
def argEnv : Nat → List Value → Env
  | _, [] => []
  | i, v :: r => (i, v) :: argEnv (i + 1) r
theorem argEnv_get : ∀ (l : List Value) (i t : Nat) (v : Value), Env.get (argEnv i l) t = some v → i ≤ t ∧ l[t - i]? = some v
  | [], _, _, _, h => by simp [argEnv, Env.get] at h
  | u :: r, i, t, v, h => by
    simp only [argEnv, Env.get] at h
    cases hb : Nat.beq i t with
    | true =>
      rw [hb] at h
      have : i = t := Nat.eq_of_beq_eq_true hb
      subst this
      simp at h
      simp [h]
    | false =>
      rw [hb] at h
      have hne : i ≠ t := Nat.ne_of_beq_eq_false hb
      obtain ⟨h1, h2⟩ := argEnv_get r (i + 1) t v h
      refine ⟨by omega, ?_⟩
      have : t - i = (t - (i + 1)) + 1 := by omega
      rw [this]
      simpa using h2
theorem FnAt.intro {f : FuncId} {fn : Func} {c : Code} {args : List Value} {A : List Blk} {w : World} {Post : Ending → List Blk → Prop} (hf : P.funcs[f]? = some fn) (hb : fn.body = some c)
    (hn : fn.ntmps = n) (hl : Nat.ble args.length n = true) (E : Env) (hE : argEnv 0 args = E)
    (h : G P n [] (A.map (·.b)) w (fnQ P fn (A.map (·.b)) w Post) c E A) : FnAt P f args A w Post := fun s => by
  subst hn; subst hE
  have hl' : args.length ≤ fn.ntmps := by simpa using Nat.le_of_ble_eq_true hl
  refine calls_of_wp hf hb (h _ _ ⟨⟨by simp; omega, rfl, fun t v hv => ?_⟩, s⟩)
  obtain ⟨_, h2⟩ := argEnv_get args 0 t v hv
  simp only [Nat.sub_zero] at h2
  have hlt : t < args.length := by
    rcases Nat.lt_or_ge t args.length with h | h
    · exact h
    · rw [List.getElem?_eq_none h] at h2; cases h2
  rw [Array.getElem?_append_left (by simpa using hlt)]
  simpa using h2

/-- What the result variables hold. -/
inductive Res (P : Program) (E : Env) (M : List Blk) : List ResultVar → List Value → Prop
  | nil : Res P E M [] []
  | tmp {t v rs vs} : Env.get E t = some v → Res P E M rs vs → Res P E M (.tmp t :: rs) (v :: vs)
  | ag {t ty b bt tot xs fr rs vs} : Env.get E t = some (.pointer (some ⟨b, 0, none⟩)) → (⟨b, bt, tot, xs, fr⟩ : Blk) ∈ M → TAgg P ty xs.length → Res P E M rs vs → Res P E M (.cell t ty :: rs) (.agg xs.toArray :: vs)
  | sc {t ty b bt tot v xs fr rs vs} : Env.get E t = some (.pointer (some ⟨b, 0, none⟩)) → (⟨b, bt, tot, v :: xs, fr⟩ : Blk) ∈ M → TScal P ty → Res P E M rs vs → Res P E M (.cell t ty :: rs) (v :: vs)
def pack : List Value → Value
  | [v] => v
  | vs => .tuple vs.toArray
def resOne (tmps : Array Value) : ResultVar → Sem Value
  | .tmp t => pure (tmps.getD t undef)
  | .cell a t => do loadVar t (← asAddr (tmps.getD a undef))
theorem Res.run {rs : List ResultVar} {vs : List Value} (h : Res P E M rs vs) {D : List Deferred} {a : Act} {w : World} (s : St n D X w0 E M a w) :
    (rs.mapM (resOne a.tmps)).run P w = .ok vs w := by
  have hp : ∀ (t : Nat) (b : Nat), Env.get E t = some (.pointer (some ⟨b, 0, none⟩)) → (asAddr (a.tmps.getD t undef)).run P w = .ok ⟨b, 0, none⟩ w := fun t b hg => by
    have := s.1.get _ _ hg
    simp [this, asAddr]
  induction h with
  | nil => simp
  | tmp hg _ ih =>
    have := s.1.get _ _ hg
    simp only [List.mapM_cons, Sem.run_bind, resOne, Sem.run_pure, Result.andThen_ok, ih]
    simp [this]
  | ag hg hm ht _ ih =>
    have hl := run_loadVar_ag (P := P) ht (s.2.cells hm)
    simp only [List.mapM_cons, Sem.run_bind, resOne, Sem.run_pure, Result.andThen_ok, ih, hp _ _ hg, hl]
  | sc hg hm ht _ ih =>
    have hl := run_loadVar_sc (P := P) ht (s.2.cells hm 0 _ rfl)
    simp only [List.mapM_cons, Sem.run_bind, resOne, Sem.run_pure, Result.andThen_ok, hp _ _ hg]
    simp only [Nat.add_zero] at hl
    simp only [hl, Result.andThen_ok, ih]
theorem results_eq (fn : Func) (tmps : Array Value) : results fn tmps = (do
    let vs ← fn.results.mapM (resOne tmps)
    pure (if h : vs.size = 1 then vs[0] else .tuple vs)) := rfl
theorem Res.results {fn : Func} {vs : List Value} (h : Res P E M fn.results.toList vs) {D : List Deferred} {a : Act} {w : World} (s : St n D X w0 E M a w) : (results fn a.tmps).run P w = .ok (pack vs) w := by
  have hr := h.run s
  have he : fn.results = fn.results.toList.toArray := by simp
  rw [results_eq, he, List.mapM_toArray]
  simp only [Sem.run_bind, Sem.run_map, hr, Result.andThen_ok, Sem.run_pure]
  match vs with
  | [] => rfl
  | [v] => rfl
  | v :: u :: r => simp [pack]
theorem R_ret {fn : Func} {Post : Ending → List Blk → Prop} {vs : List Value} (hr : Res P E M fn.results.toList vs) (N : List Blk) {M2 : List Blk} (hN : Pick M N M2) (hp : Post (.returned (pack vs)) N) :
    R n [] X w0 (fnQ P fn X w0 Post) .ret E M := fun _ _ s => ⟨s.1.defers, _, hr.results s, N, hp, s.2.pick hN⟩
theorem R_end {fn : Func} {Post : Ending → List Blk → Prop} {vs : List Value} (hr : Res P E M fn.results.toList vs) (N : List Blk) {M2 : List Blk} (hN : Pick M N M2) (hp : Post (.returned (pack vs)) N) :
    R n [] X w0 (fnQ P fn X w0 Post) .normal E M := fun _ _ s => ⟨s.1.defers, _, hr.results s, N, hp, s.2.pick hN⟩
theorem R_panic {fn : Func} {Post : Ending → List Blk → Prop} {c : List PanicEntry} (N : List Blk) {M2 : List Blk} (hN : Pick M N M2) (hp : Post (.panicked c) N) :
    R n [] X w0 (fnQ P fn X w0 Post) (.panic c) E M := fun _ _ s => ⟨s.1.defers, N, hp, s.2.pick hN⟩
end
end Go.Sl

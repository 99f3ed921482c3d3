/-
  A small logic over the kit's walk: what is known of a frame's slots (Env), of the blocks that a call works on (Blk), and rules one an operation.
-/
import Derived.WalkKit
import Derived.OrdersHeld
import Derived.Laws.CopyOwn
import Derived.Laws.BytesString
import Derived.Lib.ConvBytes
namespace Go.Sl
open Go Go.RowKit

/-! ## Slots -/
abbrev Env := List (Nat × Value)
def Env.get : Env → Nat → Option Value
  | [], _ => none
  | (d, v) :: r, t => bif Nat.beq d t then some v else Env.get r t
def Env.put (E : Env) : Option Tmp → Value → Env
  | none, _ => E
  | some d, v => (d, v) :: E
/-- E tells all that E' tells. -/
def Has (E : Env) : Env → Prop
  | [] => True
  | (t, v) :: r => Env.get E t = some v ∧ Has E r

theorem Has.get {E : Env} : ∀ {E' : Env}, Has E E' → ∀ t v, Env.get E' t = some v → Env.get E t = some v
  | [], _, _, _, h => by simp [Env.get] at h
  | (d, u) :: r, hE, t, v, h => by
    simp only [Env.get] at h
    cases hb : Nat.beq d t with
    | true =>
      rw [hb] at h
      have : d = t := Nat.eq_of_beq_eq_true hb
      subst this
      simp at h
      subst h
      exact hE.1
    | false =>
      rw [hb] at h
      exact Has.get hE.2 t v h

structure Ok (n : Nat) (D : List Deferred) (E : Env) (a : Act) : Prop where
  size : a.tmps.size = n
  defers : a.defers = D
  get : ∀ t v, Env.get E t = some v → a.tmps[t]? = some v

theorem Ok.has {n : Nat} {D : List Deferred} {E E' : Env} {a : Act} (h : Ok n D E a) (hE : Has E E') : Ok n D E' a :=
  ⟨h.size, h.defers, fun t v hv => h.get t v (hE.get t v hv)⟩

def dstIn (n : Nat) : Option Tmp → Bool
  | none => true
  | some d => Nat.blt d n

theorem Ok.put {n : Nat} {D : List Deferred} {E : Env} {a : Act} (h : Ok n D E a) {dst : Option Tmp} (hd : dstIn n dst = true) (v : Value) :
    Ok n D (E.put dst v) (a.put dst v) := by
  cases dst with
  | none => exact h
  | some d =>
    have hlt : d < n := by simpa [dstIn, Nat.blt_eq] using hd
    refine ⟨by simpa [Act.put] using h.size, by simpa [Act.put] using h.defers, fun t u hu => ?_⟩
    simp only [Env.put, Env.get] at hu
    simp only [Act.put]
    cases hb : Nat.beq d t with
    | true =>
      rw [hb] at hu
      have : d = t := Nat.eq_of_beq_eq_true hb
      subst this
      simp at hu
      subst hu
      simp [h.size, hlt]
    | false =>
      rw [hb] at hu
      have hne : d ≠ t := Nat.ne_of_beq_eq_false hb
      rw [Array.getElem?_setIfInBounds_ne hne]
      exact h.get t u hu

def ev (E : Env) : Operand → Option Value
  | .tmp t => Env.get E t
  | .const v => some v
  | .global g => some (.pointer (some ⟨g, 0, none⟩))
  | .func f => some (.func (.func f) #[] #[])
def evL (E : Env) : List Operand → Option (List Value)
  | [] => some []
  | x :: r => match ev E x, evL E r with
    | some v, some vs => some (v :: vs)
    | _, _ => none

theorem Ok.ev {n : Nat} {D : List Deferred} {E : Env} {a : Act} (h : Ok n D E a) {x : Operand} {v : Value} (hx : ev E x = some v) : a.eval x = v := by
  cases x with
  | tmp t =>
    have := h.get t v hx
    simp [Act.eval, this]
  | const u => simpa [Sl.ev, Act.eval] using hx
  | global g => simpa [Sl.ev, Act.eval] using hx
  | func f => simpa [Sl.ev, Act.eval] using hx
theorem Ok.evL {n : Nat} {D : List Deferred} {E : Env} {a : Act} (h : Ok n D E a) : ∀ {l : List Operand} {vs : List Value}, Sl.evL E l = some vs → l.map a.eval = vs
  | [], vs, hx => by simpa [Sl.evL] using hx
  | x :: r, vs, hx => by
    simp only [Sl.evL] at hx
    split at hx
    · rename_i v us hv hu
      simp at hx
      subst hx
      simp [h.ev hv, h.evL hu]
    · simp at hx

/-! ## Blocks -/
/-- Block b: a row of 'tot' cells of type t, of which the first are xs; fr: its frozen range. -/
structure Blk where
  b : Nat
  t : TypeId
  tot : Nat
  xs : List Value
  fr : Nat × Nat := (0, 0)

structure Blk.In (k : Blk) (w : World) : Prop where
  ex : ∃ cur : Array Value, w.heap[k.b]? = some (.cells cur k.t k.fr) ∧ cur.size = k.tot ∧ k.xs.length ≤ k.tot ∧ cur.toList.take k.xs.length = k.xs

theorem Blk.In.lt {k : Blk} {w : World} (h : k.In w) : k.b < w.heap.size := by
  obtain ⟨cur, hc, _⟩ := h.ex
  exact (Array.getElem?_eq_some_iff.1 hc).1
theorem Blk.In.of_same {k : Blk} {w w' : World} (h : k.In w) (hs : w'.heap[k.b]? = w.heap[k.b]?) : k.In w' := by
  obtain ⟨cur, hc, r⟩ := h.ex
  exact ⟨cur, hs.trans hc, r⟩

structure SL (X : List Nat) (M : List Blk) (w0 w : World) : Prop where
  os : w.os = w0.os
  tape : w.tape = w0.tape
  output : w.output = w0.output
  size : w0.heap.size ≤ w.heap.size
  same : ∀ k, k < w0.heap.size → k ∉ X → w.heap[k]? = w0.heap[k]?
  nodup : (M.map (·.b)).Nodup
  own : ∀ k ∈ M, k.b ∈ X ∨ w0.heap.size ≤ k.b
  mem : ∀ k ∈ M, k.In w

inductive Rem : Blk → List Blk → List Blk → Prop
  | head {k M} : Rem k (k :: M) M
  | tail {k x M M1} : Rem k M M1 → Rem k (x :: M) (x :: M1)
inductive Pick : List Blk → List Blk → List Blk → Prop
  | nil {M} : Pick M [] M
  | cons {k r M M1 M2} : Rem k M M1 → Pick M1 r M2 → Pick M (k :: r) M2

theorem Rem.perm {k : Blk} {M M1 : List Blk} (h : Rem k M M1) : M.Perm (k :: M1) := by
  induction h with
  | head => exact .refl _
  | tail _ ih => exact (ih.cons _).trans (.swap _ _ _)
theorem Pick.perm {M r M2 : List Blk} (h : Pick M r M2) : M.Perm (r ++ M2) := by
  induction h with
  | nil => exact .refl _
  | cons h1 _ ih => exact (h1.perm.trans (ih.cons _))

theorem SL.perm {X : List Nat} {M M' : List Blk} {w0 w : World} (h : SL X M w0 w) (hp : M.Perm M') : SL X M' w0 w :=
  ⟨h.os, h.tape, h.output, h.size, h.same, (hp.map _).nodup_iff.1 h.nodup, fun k hk => h.own k (hp.mem_iff.2 hk), fun k hk => h.mem k (hp.mem_iff.2 hk)⟩
theorem SL.left {X : List Nat} {A M : List Blk} {w0 w : World} (h : SL X (A ++ M) w0 w) : SL X A w0 w :=
  ⟨h.os, h.tape, h.output, h.size, h.same, by have := h.nodup; rw [List.map_append] at this; exact (List.nodup_append.1 this).1,
    fun k hk => h.own k (List.mem_append_left _ hk), fun k hk => h.mem k (List.mem_append_left _ hk)⟩
theorem SL.pick {X : List Nat} {M A M1 : List Blk} {w0 w : World} (h : SL X M w0 w) (hp : Pick M A M1) : SL X A w0 w := (h.perm hp.perm).left
theorem SL.nil {X : List Nat} {M : List Blk} {w0 w : World} (h : SL X M w0 w) : SL X [] w0 w := h.pick .nil
theorem SL.drew {X : List Nat} {M : List Blk} {w0 w : World} (h : SL X M w0 w) (d : Nat) : SL X M w0 { w with drawn := d } :=
  ⟨h.os, h.tape, h.output, h.size, h.same, h.nodup, h.own, fun k hk => (h.mem k hk).of_same rfl⟩

/-- A call that worked on the blocks A alone, seen from its caller. -/
theorem SL.call {X : List Nat} {M A M1 N : List Blk} {w0 w w' : World} (h : SL X M w0 w) (hp : Pick M A M1) (hc : SL (A.map (·.b)) N w w') : SL X (N ++ M1) w0 w' := by
  have h' : SL X (A ++ M1) w0 w := h.perm hp.perm
  have hnd := h'.nodup
  rw [List.map_append, List.nodup_append] at hnd
  have hM1 : ∀ k ∈ M1, k.b < w.heap.size ∧ k.b ∉ A.map (·.b) := fun k hk =>
    ⟨(h'.mem k (List.mem_append_right _ hk)).lt, fun hA => hnd.2.2 _ hA _ (List.mem_map_of_mem hk) rfl⟩
  refine ⟨hc.os.trans h.os, hc.tape.trans h.tape, hc.output.trans h.output, Nat.le_trans h.size hc.size, fun k hk hX => ?_, ?_, fun k hk => ?_, fun k hk => ?_⟩
  · refine (hc.same k (Nat.lt_of_lt_of_le hk h.size) fun hA => ?_).trans (h.same k hk hX)
    obtain ⟨y, hy, rfl⟩ := List.mem_map.1 hA
    rcases h'.own y (List.mem_append_left _ hy) with h1 | h1
    · exact hX h1
    · omega
  · rw [List.map_append, List.nodup_append]
    refine ⟨hc.nodup, hnd.2.1, fun x hx y hy e => ?_⟩
    subst e
    obtain ⟨kN, hkN, rfl⟩ := List.mem_map.1 hx
    obtain ⟨k1, hk1, e⟩ := List.mem_map.1 hy
    have h1 := hM1 k1 hk1
    rcases hc.own kN hkN with h2 | h2
    · exact h1.2 (e ▸ h2)
    · omega
  · rcases List.mem_append.1 hk with hk | hk
    · rcases hc.own k hk with h2 | h2
      · obtain ⟨y, hy, e⟩ := List.mem_map.1 h2
        exact e ▸ h'.own y (List.mem_append_left _ hy)
      · exact .inr (Nat.le_trans h.size h2)
    · exact h'.own k (List.mem_append_right _ hk)
  · rcases List.mem_append.1 hk with hk | hk
    · exact hc.mem k hk
    · have h1 := hM1 k hk
      exact (h'.mem k (List.mem_append_right _ hk)).of_same (hc.same _ h1.1 h1.2)

/-! ## Judgements -/
/-- The state: the slots, the blocks. -/
def St (n : Nat) (D : List Deferred) (X : List Nat) (w0 : World) (E : Env) (M : List Blk) (a : Act) (w : World) : Prop := Ok n D E a ∧ SL X M w0 w

theorem St.weak {n : Nat} {D : List Deferred} {X : List Nat} {w0 : World} {E E' : Env} {M M' M2 : List Blk} {a : Act} {w : World} (h : St n D X w0 E M a w) (hE : Has E E') (hM : Pick M M' M2) :
    St n D X w0 E' M' a w := ⟨h.1.has hE, h.2.pick hM⟩

section
variable (P : Program) (n : Nat) (D : List Deferred) (X : List Nat) (w0 : World)
def G (Q : Exit → Act → World → Prop) (c : Code) (E : Env) (M : List Blk) : Prop := ∀ a w, St n D X w0 E M a w → c.wp P Q a w
def GL (Q : Exit → Act → World → Prop) (ops : Array Oper) (l : List Oper) (E : Env) (M : List Blk) : Prop := ∀ a w, St n D X w0 E M a w → wpList P ops Q l a w
def R (Q : Exit → Act → World → Prop) (e : Exit) (E : Env) (M : List Blk) : Prop := ∀ a w, St n D X w0 E M a w → Q e a w
end

section
variable {P : Program} {n : Nat} {D : List Deferred} {X : List Nat} {w0 : World} {Q : Exit → Act → World → Prop} {E : Env} {M : List Blk}

/-! ### Code -/
theorem G_weak {c : Code} {E' : Env} {M' M2 : List Blk} (hE : Has E E') (hM : Pick M M' M2) (h : G P n D X w0 Q c E' M') : G P n D X w0 Q c E M :=
  fun a w s => h a w (s.weak hE hM)
theorem G_seq {x y : Code} (h : G P n D X w0 (Exit.then (y.wp P Q) Q) x E M) : G P n D X w0 Q (.seq x y) E M := fun a w s => wp_seq (h a w s)
theorem G_block {id : Nat} {c : Code} (h : G P n D X w0 (Exit.inBlock id Q) c E M) : G P n D X w0 Q (.block id c) E M := fun a w s => wp_block (h a w s)
theorem G_skip (h : R n D X w0 Q .normal E M) : G P n D X w0 Q .skip E M := fun a w s => wp_skip (h a w s)
theorem G_exit {id : Nat} (h : R n D X w0 Q (.exit id) E M) : G P n D X w0 Q (.exit id) E M := fun a w s => wp_exit (h a w s)
theorem G_ret (h : R n D X w0 Q .ret E M) : G P n D X w0 Q .ret E M := fun a w s => wp_ret (h a w s)
theorem G_cond {c : Operand} {x y : Code} {b : Bool} (hc : ev E c = some (.bool b)) (ht : b = true → G P n D X w0 Q x E M) (hf : b = false → G P n D X w0 Q y E M) :
    G P n D X w0 Q (.cond c x y) E M := fun a w s => wp_cond_split (s.1.ev hc) (fun h => ht h a w s) (fun h => hf h a w s)
theorem G_cond_t {c : Operand} {x y : Code} {b : Bool} (hc : ev E c = some (.bool b)) (hb : b = true) (ht : G P n D X w0 Q x E M) :
    G P n D X w0 Q (.cond c x y) E M := G_cond hc (fun _ => ht) (fun h => by rw [hb] at h; cases h)
theorem G_cond_f {c : Operand} {x y : Code} {b : Bool} (hc : ev E c = some (.bool b)) (hb : b = false) (hf : G P n D X w0 Q y E M) :
    G P n D X w0 Q (.cond c x y) E M := G_cond hc (fun h => by rw [hb] at h; cases h) (fun _ => hf)
theorem G_cond_dec {c : Operand} {x y : Code} {p : Prop} [Decidable p] (hc : ev E c = some (.bool (decide p))) (ht : p → G P n D X w0 Q x E M) (hf : ¬ p → G P n D X w0 Q y E M) :
    G P n D X w0 Q (.cond c x y) E M := G_cond hc (fun h => ht (of_decide_eq_true h)) (fun h => hf (of_decide_eq_false h))

/-! ### Exits -/
theorem R_seq {y : Code} (h : G P n D X w0 Q y E M) : R n D X w0 (Exit.then (y.wp P Q) Q) .normal E M := fun a w s => h a w s
theorem R_then_ret {K : Act → World → Prop} (h : R n D X w0 Q .ret E M) : R n D X w0 (Exit.then K Q) .ret E M := fun a w s => h a w s
theorem R_then_exit {K : Act → World → Prop} {id : Nat} (h : R n D X w0 Q (.exit id) E M) : R n D X w0 (Exit.then K Q) (.exit id) E M := fun a w s => h a w s
theorem R_then_panic {K : Act → World → Prop} {c : List PanicEntry} (h : R n D X w0 Q (.panic c) E M) : R n D X w0 (Exit.then K Q) (.panic c) E M := fun a w s => h a w s
theorem R_block_normal {id : Nat} (h : R n D X w0 Q .normal E M) : R n D X w0 (Exit.inBlock id Q) .normal E M := fun a w s => h a w s
theorem R_block_ret {id : Nat} (h : R n D X w0 Q .ret E M) : R n D X w0 (Exit.inBlock id Q) .ret E M := fun a w s => h a w s
theorem R_block_panic {id : Nat} {c : List PanicEntry} (h : R n D X w0 Q (.panic c) E M) : R n D X w0 (Exit.inBlock id Q) (.panic c) E M := fun a w s => h a w s
theorem R_block_exit {id : Nat} (h : R n D X w0 Q .normal E M) : R n D X w0 (Exit.inBlock id Q) (.exit id) E M := fun a w s => by
  simp only [Exit.inBlock, if_true]; exact h a w s
theorem R_block_other {id id' : Nat} (hne : id' ≠ id) (h : R n D X w0 Q (.exit id') E M) : R n D X w0 (Exit.inBlock id Q) (.exit id') E M := fun a w s => by
  simp only [Exit.inBlock, if_neg hne]; exact h a w s

/-! ### Loops and cuts -/
/-- One of a family of states. -/
def Fam {ι : Type} (n : Nat) (D : List Deferred) (X : List Nat) (w0 : World) (I : ι → Prop) (Ei : ι → Env) (Mi : ι → List Blk) (a : Act) (w : World) : Prop :=
  ∃ j, I j ∧ St n D X w0 (Ei j) (Mi j) a w
theorem R_fam {ι : Type} {I : ι → Prop} {Ei : ι → Env} {Mi : ι → List Blk} (j : ι) {M2 : List Blk} (hI : I j) (hE : Has E (Ei j)) (hM : Pick M (Mi j) M2) :
    R n D X w0 (Exit.then (Fam n D X w0 I Ei Mi) Q) .normal E M := fun _ _ s => ⟨j, hI, s.weak hE hM⟩
theorem G_seq_cut {ι : Type} (I : ι → Prop) (Ei : ι → Env) (Mi : ι → List Blk) {x y : Code} (h1 : G P n D X w0 (Exit.then (Fam n D X w0 I Ei Mi) Q) x E M)
    (h2 : ∀ i, I i → G P n D X w0 Q y (Ei i) (Mi i)) : G P n D X w0 Q (.seq x y) E M := fun a w s => by
  refine wp_seq (Code.wp_mono (fun e a w q => ?_) (h1 a w s))
  cases e with
  | normal => obtain ⟨j, hI, st⟩ := q; exact h2 j hI a w st
  | _ => exact q
theorem G_loop {ι : Type} (μ : ι → Nat) (I : ι → Prop) (Ei : ι → Env) (Mi : ι → List Blk) {c : Code} (i0 : ι) {M2 : List Blk} (hI : I i0) (hE : Has E (Ei i0)) (hM : Pick M (Mi i0) M2)
    (round : ∀ i, I i → G P n D X w0 (Exit.then (Fam n D X w0 (fun j => I j ∧ μ j < μ i) Ei Mi) Q) c (Ei i) (Mi i)) : G P n D X w0 Q (.loop c) E M := by
  intro a w s b k cs
  have key : ∀ m i a w, μ i = m → I i → St n D X w0 (Ei i) (Mi i) a w →
      ∃ e a' w', Q e a' w' ∧ Arrives P (lone (b.at a (.code c :: .inLoop c :: k)) cs w) b k cs e a' w' := by
    intro m
    induction m using Nat.strongRecOn with
    | _ m ih =>
      intro i a w hm hi s
      obtain ⟨e, a₁, w₁, hq, harr⟩ := round i hi a w s b (.inLoop c :: k) cs
      cases e with
      | normal =>
        obtain ⟨j, ⟨hj, hlt⟩, st⟩ := hq
        obtain ⟨e₂, a₂, w₂, hq₂, harr₂⟩ := ih (μ j) (hm ▸ hlt) j a₁ w₁ rfl hj st
        exact ⟨e₂, a₂, w₂, hq₂, .of_steps (Steps.trans harr (.one step_inLoop)) harr₂⟩
      | exit id => exact ⟨_, a₁, w₁, hq, .pass (x := .inLoop c) rfl (fun _ _ => .inl (by simp)) harr⟩
      | goto l => exact ⟨_, a₁, w₁, hq, .pass (x := .inLoop c) rfl (fun _ _ => .inl (by simp)) harr⟩
      | ret => exact ⟨_, a₁, w₁, hq, .pass (x := .inLoop c) rfl (fun _ _ => .inl (by simp)) harr⟩
      | panic ch => exact ⟨_, a₁, w₁, hq, .pass (x := .inLoop c) rfl (fun _ _ => .inl (by simp)) harr⟩
      | outgrown => exact ⟨_, a₁, w₁, hq, .pass (x := .inLoop c) rfl (fun _ _ => .inl (by simp)) harr⟩
  obtain ⟨e, a', w', hq, harr⟩ := key _ i0 a w rfl hI (s.weak hE hM)
  exact ⟨e, a', w', hq, .of_steps (.one step_loop) harr⟩
end
end Go.Sl

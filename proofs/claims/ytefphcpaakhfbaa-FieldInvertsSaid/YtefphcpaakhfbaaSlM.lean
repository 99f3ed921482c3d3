/-
  The logic's rules for the operations on memory.
-/
import Derived.Test.YtefphcpaakhfbaaSlY
namespace Go.Sl
open Go Go.RowKit

def TArr (P : Program) (t : TypeId) (len : Nat) (e : TypeId) (s : Nat) : Prop := P.underlying t = some (.array len e) ∧ (P.info? e).map (·.size) = some s
def TSli (P : Program) (t : TypeId) (e : TypeId) (s : Nat) : Prop := P.underlying t = some (.slice e) ∧ (P.info? e).map (·.size) = some s
/-- Field f of struct type s lies 'off' cells from its head. -/
def TFld (P : Program) (s : TypeId) (f off : Nat) : Prop := ∀ (a : Addr) w, (Instr.fieldAt s (.pointer (some a)) f).run P w = .ok (.pointer (some (a.add off))) w
theorem TFld.mk' {P : Program} {s f off sz : Nat} {fs : Array Field} {fl : Field} (hu : P.underlying s = some (.struct fs)) (hf : fs[f]? = some fl) (ho : fl.offset = off)
    (hs : (P.info? fl.type).map (·.size) = some sz) (hz : sz ≠ 0) : TFld P s f off := fun a w => by
  subst ho
  simp [Instr.fieldAt, run_underlying hu, hf, Instr.sureAddr, fieldPlace, run_sizeOf hs, hz]

section
variable {P : Program} {n : Nat} {D : List Deferred} {X : List Nat} {w0 : World} {E : Env} {M : List Blk} {tt : TypeId}

/-! ### Addresses -/
theorem Y_field {t : TypeId} {x : Operand} {f off b o : Nat} (ht : TFld P t f off) (hx : ev E x = some (.pointer (some ⟨b, o, none⟩))) :
    Yl P n D X w0 E M (.fieldAddr t x f) tt (.pointer (some ⟨b, o + off, none⟩)) := fun a w s d pos af g => by
  simp only [execOp, s.1.ev hx]
  rw [Sem.run_bind, ht, addr_add]
  rfl
theorem Y_idxA {t len e sz : Nat} {x i : Operand} {b o j : Nat} {k : IntKind} (ht : TArr P t len e sz) (hx : ev E x = some (.pointer (some ⟨b, o, none⟩))) (hi : ev E i = some (.int k (j : Int))) (h : j < len) :
    Yl P n D X w0 E M (.indexAddr t x i) tt (.pointer (some ⟨b, o + j * sz, none⟩)) := fun a w s d pos af g => by
  simp only [execOp, s.1.ev hx, s.1.ev hi]
  simp [Instr.indexAt, asIntOf, run_underlying ht.1, Instr.sureAddr, run_sizeOf ht.2, addr_add]
  intro hc; exact absurd h (by omega)
theorem Y_idxA1 {t len e : Nat} {x i : Operand} {b o j : Nat} {k : IntKind} (ht : TArr P t len e 1) (hx : ev E x = some (.pointer (some ⟨b, o, none⟩))) (hi : ev E i = some (.int k (j : Int))) (h : j < len) :
    Yl P n D X w0 E M (.indexAddr t x i) tt (.pointer (some ⟨b, o + j, none⟩)) := by
  have := Y_idxA (n := n) (D := D) (X := X) (w0 := w0) (E := E) (M := M) (tt := tt) ht hx hi h
  rwa [Nat.mul_one] at this
theorem Y_idxS {t e sz : Nat} {x i : Operand} {ao : Option Addr} {b o l c j : Nat} {k : IntKind} (ht : TSli P t e sz) (hx : ev E x = some (.slice ao l c)) (ha : ao = some ⟨b, o, none⟩) (hi : ev E i = some (.int k (j : Int))) (h : j < l) :
    Yl P n D X w0 E M (.indexAddr t x i) tt (.pointer (some ⟨b, o + j * sz, none⟩)) := fun a w s d pos af g => by
  subst ha
  simp only [execOp, s.1.ev hx, s.1.ev hi]
  simp [Instr.indexAt, asIntOf, run_underlying ht.1, run_sizeOf ht.2, addr_add]
  intro hc; exact absurd h (by omega)
theorem Y_idxS1 {t e : Nat} {x i : Operand} {ao : Option Addr} {b o l c j : Nat} {k : IntKind} (ht : TSli P t e 1) (hx : ev E x = some (.slice ao l c)) (ha : ao = some ⟨b, o, none⟩) (hi : ev E i = some (.int k (j : Int))) (h : j < l) :
    Yl P n D X w0 E M (.indexAddr t x i) tt (.pointer (some ⟨b, o + j, none⟩)) := by
  have := Y_idxS (n := n) (D := D) (X := X) (w0 := w0) (E := E) (M := M) (tt := tt) ht hx ha hi h
  rwa [Nat.mul_one] at this
theorem Y_index {t len e : Nat} {x i : Operand} {cs : List Value} {j : Nat} {k : IntKind} {v : Value} (ht : TArr P t len e 1) (he : TScal P e) (hx : ev E x = some (.agg cs.toArray)) (hi : ev E i = some (.int k (j : Int)))
    (h : j < len) (hv : nth cs j = some v) : Yl P n D X w0 E M (.index t x i) tt v := fun a w s d pos af g => by
  simp only [execOp, s.1.ev hx, s.1.ev hi]
  obtain ⟨de, hu, hd, _⟩ := he
  rw [nth_eq] at hv
  simp [Instr.index, asIntOf, run_underlying ht.1, run_sizeOf ht.2, part, run_isAgg' hu, hd, hv]
  intro hc; exact absurd h (by omega)
theorem Y_extract {x : Operand} {vs : List Value} {i : Nat} {v : Value} (hx : ev E x = some (.tuple vs.toArray)) (hv : nth vs i = some v) : Yl P n D X w0 E M (.extract x i) tt v := fun a w s d pos af g => by
  rw [nth_eq] at hv
  simp [execOp, s.1.ev hx, Instr.extract, hv]
theorem Y_len {t e sz : Nat} {x : Operand} {ao : Option Addr} {l c : Nat} (ht : TSli P t e sz) (hx : ev E x = some (.slice ao l c)) : Yl P n D X w0 E M (.call ⟨.builtin .len, #[x], #[t]⟩) tt (.int .i64 (l : Int)) := fun a w s d pos af g => by
  simp [execOp, resolve, invoke, builtin, s.1.ev hx, Builtin.len_, run_underlying ht.1, goInt]
theorem Y_makeFunc {f : Fn} {first captured : Array Operand} {fi ca : List Value} (h1 : evL E first.toList = some fi) (h2 : evL E captured.toList = some ca) :
    Yl P n D X w0 E M (.makeFunc f first captured) tt (.func f fi.toArray ca.toArray) := fun a w s d pos af g => by
  have e1 := s.1.evL h1
  have e2 := s.1.evL h2
  have a1 : first.map a.eval = fi.toArray := by rw [← e1, ← Array.toList_map]
  have a2 : captured.map a.eval = ca.toArray := by rw [← e2, ← Array.toList_map]
  simp [execOp, Instr.makeFunc, a1, a2]
/-- The call of a function that the model itself stands in for. -/
theorem Y_ext {x : Operand} {xs : Array Operand} {ts : Array TypeId} {f : FuncId} {args : List Value} {v : Value} (hf : ev E x = some (.func (.func f) #[] #[])) (hargs : evL E xs.toList = some args)
    (h : ∀ w, (callFunc f args.toArray).run P w = .ok (.value v) w) : Yl P n D X w0 E M (.call ⟨.value x, xs, ts⟩) tt v := fun a w s d pos af g => by
  have ha : xs.map a.eval = args.toArray := by
    have := s.1.evL hargs
    rw [← this, ← Array.toList_map]
  simp [execOp, resolve, s.1.ev hf, ha, Deferred.ofValue, invoke, h]

/-! ### Slices of slices and of arrays -/
def optN : Option Value → Option (Option Nat)
  | none => some none
  | some (.int _ (.ofNat m)) => some (some m)
  | some _ => none
theorem Y_slA {t len e sz : Nat} {x : Operand} {b o : Nat} (ht : TArr P t len e sz) (hx : ev E x = some (.pointer (some ⟨b, o, none⟩))) :
    Yl P n D X w0 E M (.slice t x none none none) tt (.slice (some ⟨b, o, none⟩) len len) := fun a w s d pos af g => by
  simp only [execOp, s.1.ev hx]
  simp [Instr.sliceAt, run_underlying ht.1, Instr.sureAddr, Instr.sliceBounds, run_sizeOf ht.2]
  intro _; simp [addr_add]
theorem Y_slAh {t len e sz : Nat} {x y : Operand} {b o h : Nat} {k : IntKind} (ht : TArr P t len e sz) (hx : ev E x = some (.pointer (some ⟨b, o, none⟩))) (hy : ev E y = some (.int k (h : Int))) (hh : h ≤ len) :
    Yl P n D X w0 E M (.slice t x none (some y) none) tt (.slice (some ⟨b, o, none⟩) h len) := fun a w s d pos af g => by
  simp only [execOp, s.1.ev hx, Option.map_some, s.1.ev hy]
  simp [Instr.sliceAt, run_underlying ht.1, Instr.sureAddr, Instr.sliceBounds, Instr.sliceBound, asIntOf, hh, run_sizeOf ht.2, addr_add]
theorem Y_slAl {t len e sz : Nat} {x y : Operand} {b o l : Nat} {k : IntKind} (ht : TArr P t len e sz) (hx : ev E x = some (.pointer (some ⟨b, o, none⟩))) (hy : ev E y = some (.int k (l : Int))) (hh : l < len) :
    Yl P n D X w0 E M (.slice t x (some y) none none) tt (.slice (some ⟨b, o + l * sz, none⟩) (len - l) (len - l)) := fun a w s d pos af g => by
  simp only [execOp, s.1.ev hx, Option.map_some, s.1.ev hy]
  have hne : ¬ len = l := by omega
  have hle : l ≤ len := by omega
  simp [Instr.sliceAt, run_underlying ht.1, Instr.sureAddr, Instr.sliceBounds, Instr.sliceBound, asIntOf, hle, run_sizeOf ht.2, hne, addr_add]
theorem Y_slS {t e sz : Nat} {x : Operand} {ao : Option Addr} {l c : Nat} {lo hi : Option Operand} {vl vh : Option Value} {kl kh : Nat} (ht : TSli P t e sz) (hx : ev E x = some (.slice ao l c))
    (hlo : lo.map (ev E) = vl.map some) (hhi : hi.map (ev E) = vh.map some) (h1 : match vl with | none => kl = 0 | some v => ∃ k, v = .int k (kl : Int)) (h2 : match vh with | none => kh = l | some v => ∃ k, v = .int k (kh : Int))
    (hle : kl ≤ kh) (hc : kh ≤ c) (hlc : l ≤ c) :
    Yl P n D X w0 E M (.slice t x lo hi none) tt (.slice (subA ao c kl sz) (kh - kl) (c - kl)) := fun a w s d pos af g => by
  have e1 : lo.map a.eval = vl := by
    cases lo with
    | none => cases vl <;> simp at hlo ⊢
    | some y => cases vl with
      | none => simp at hlo
      | some v => simp at hlo ⊢; exact s.1.ev hlo
  have e2 : hi.map a.eval = vh := by
    cases hi with
    | none => cases vh <;> simp at hhi ⊢
    | some y => cases vh with
      | none => simp at hhi
      | some v => simp at hhi ⊢; exact s.1.ev hhi
  simp only [execOp, s.1.ev hx, e1, e2]
  cases vl with
  | none =>
    cases vh with
    | none =>
      simp only at h1 h2; subst h1; subst h2
      simp [Instr.sliceAt, run_underlying ht.1, Instr.slice, Instr.sliceBounds, run_sizeOf ht.2, subA]
    | some v =>
      simp only at h1 h2; subst h1; obtain ⟨k, rfl⟩ := h2
      simp [Instr.sliceAt, run_underlying ht.1, Instr.slice, Instr.sliceBounds, Instr.sliceBound, asIntOf, hc, run_sizeOf ht.2, subA]
  | some u =>
    simp only at h1; obtain ⟨k', rfl⟩ := h1
    cases vh with
    | none =>
      simp only at h2; subst h2
      simp [Instr.sliceAt, run_underlying ht.1, Instr.slice, Instr.sliceBounds, Instr.sliceBound, asIntOf, hle, run_sizeOf ht.2, subA]
    | some v =>
      simp only at h2; obtain ⟨k, rfl⟩ := h2
      simp [Instr.sliceAt, run_underlying ht.1, Instr.slice, Instr.sliceBounds, Instr.sliceBound, asIntOf, hle, hc, run_sizeOf ht.2, subA]

/-! ### Loads -/
theorem Y_loadS {t : TypeId} {x : Operand} {b o bt tot : Nat} {xs : List Value} {fr : Nat × Nat} {v : Value} (hx : ev E x = some (.pointer (some ⟨b, o, none⟩))) (ht : TScal P t) (hm : (⟨b, bt, tot, xs, fr⟩ : Blk) ∈ M) (hv : nth xs o = some v) :
    Yl P n D X w0 E M (.load t x) tt v := fun a w s d pos af g => by
  rw [nth_eq] at hv
  have hc := s.2.cells hm o v hv
  simp only [Nat.zero_add] at hc
  simp [execOp, s.1.ev hx, Instr.loadAt, Instr.sureAddr, run_loadVar_sc (P := P) ht hc]
theorem Y_loadA {t sz : Nat} {x : Operand} {b bt tot : Nat} {xs : List Value} {fr : Nat × Nat} (hx : ev E x = some (.pointer (some ⟨b, 0, none⟩))) (hm : (⟨b, bt, tot, xs, fr⟩ : Blk) ∈ M) (ht : TAgg P t sz) (hl : xs.length = sz) :
    Yl P n D X w0 E M (.load t x) tt (.agg xs.toArray) := fun a w s d pos af g => by
  subst hl
  have hc := s.2.cells hm
  simp [execOp, s.1.ev hx, Instr.loadAt, Instr.sureAddr, run_loadVar_ag (P := P) ht hc]
/-- A part of a block. -/
theorem Y_loadP {t : TypeId} {x : Operand} {b o bt tot : Nat} {xs : List Value} {fr : Nat × Nat} (ys : List Value) (hx : ev E x = some (.pointer (some ⟨b, o, none⟩))) (hm : (⟨b, bt, tot, xs, fr⟩ : Blk) ∈ M)
    (hy : (xs.drop o).take ys.length = ys) (ht : TAgg P t ys.length) : Yl P n D X w0 E M (.load t x) tt (.agg ys.toArray) := fun a w s d pos af g => by
  have hc := (s.2.cells hm).sub o ys.length
  rw [hy] at hc
  simp only [Nat.zero_add] at hc
  simp [execOp, s.1.ev hx, Instr.loadAt, Instr.sureAddr, run_loadVar_ag (P := P) ht hc]
/-- A cell of what came in. -/
theorem Y_loadX {t : TypeId} {x : Operand} {b o o' j : Nat} {xs : List Value} {v : Value} (hx : ev E x = some (.pointer (some ⟨b, o', none⟩))) (ht : TScal P t) (hc : CellsAt w0 b o xs) (hX : b ∉ X) (ho : o' = o + j) (hv : xs[j]? = some v) :
    Yl P n D X w0 E M (.load t x) tt v := fun a w s d pos af g => by
  subst ho
  have hc' := (hc.keep s.2 hX) j v hv
  simp [execOp, s.1.ev hx, Instr.loadAt, Instr.sureAddr, run_loadVar_sc (P := P) ht hc']
theorem Y_loadXA {t : TypeId} {x : Operand} {b o : Nat} {xs : List Value} (hx : ev E x = some (.pointer (some ⟨b, o, none⟩))) (ht : TAgg P t xs.length) (hc : CellsAt w0 b o xs) (hX : b ∉ X) :
    Yl P n D X w0 E M (.load t x) tt (.agg xs.toArray) := fun a w s d pos af g => by
  have hc' := hc.keep s.2 hX
  simp [execOp, s.1.ev hx, Instr.loadAt, Instr.sureAddr, run_loadVar_ag (P := P) ht hc']

/-! ### Stores -/
theorem all_B (l : List UInt8) : (B l).all Value.oneCell' = true := by
  simp only [B, List.all_map]
  exact List.all_eq_true.2 fun x _ => rfl
theorem len_B (l : List UInt8) : (B l).length = l.length := by simp [B]
theorem nth_B {l : List UInt8} {i : Nat} (h : i < l.length) : nth (B l) i = some (bv l[i]) := by
  rw [nth_eq]; simp [B, h]
theorem setL_B {l : List UInt8} {i : Nat} (h : i < l.length) (b : UInt8) : setL (B l) i (bv b) = some (B (l.set i b)) := by
  rw [setL_of (by simpa [B] using h)]; simp [B, List.map_set]
theorem S_sc {t : TypeId} {x y : Operand} {b o bt tot : Nat} {xs xs' : List Value} {v : Value} {M1 : List Blk} (hx : ev E x = some (.pointer (some ⟨b, o, none⟩))) (ht : TScal P t) (hy : ev E y = some v) (h1 : v.oneCell' = true)
    (hr : Rem ⟨b, bt, tot, xs, (0, 0)⟩ M M1) (hs : setL xs o v = some xs') : Sr P n D X w0 E M (.store t x y) tt (⟨b, bt, tot, xs', (0, 0)⟩ :: M1) := fun a w s d pos af g => by
  obtain ⟨hlt, hput⟩ := setL_put hs
  obtain ⟨d', hu, hd, hsz⟩ := ht
  have hcs : v.cells = #[v] := by cases v <;> simp_all [Value.cells, Value.oneCell']
  obtain ⟨w', hrun, hsl⟩ := s.2.write hr rfl (o := o) (ys := [v]) (by simp; omega) (by simpa using h1) P
  refine ⟨w', ?_, hput ▸ hsl⟩
  simp only [execOp, s.1.ev hx, s.1.ev hy]
  simp [Instr.storeAt, Instr.sureAddr, storeVar, hcs, run_sizeOf hsz, hrun]
theorem S_ag {t : TypeId} {x y : Operand} {b o bt tot : Nat} {xs xs' ys : List Value} {M1 : List Blk} (hx : ev E x = some (.pointer (some ⟨b, o, none⟩))) (hy : ev E y = some (.agg ys.toArray)) (ht : TAgg P t ys.length) (h1 : ys.all Value.oneCell' = true)
    (hr : Rem ⟨b, bt, tot, xs, (0, 0)⟩ M M1) (hfit : o + ys.length ≤ xs.length) (hs : put xs o ys = xs') : Sr P n D X w0 E M (.store t x y) tt (⟨b, bt, tot, xs', (0, 0)⟩ :: M1) := fun a w s d pos af g => by
  obtain ⟨d', hu, hd, hsz⟩ := ht
  obtain ⟨w', hrun, hsl⟩ := s.2.write hr rfl (o := o) (ys := ys) hfit (fun v hv => List.all_eq_true.1 h1 v hv) P
  refine ⟨w', ?_, hs ▸ hsl⟩
  simp only [execOp, s.1.ev hx, s.1.ev hy]
  simp [Instr.storeAt, Instr.sureAddr, storeVar, Value.cells, run_sizeOf hsz, hrun]
theorem put_all {xs ys : List Value} (h : ys.length = xs.length) : put xs 0 ys = ys := by simp [put, h]
/-- A whole variable written over. -/
theorem S_all {t sz : Nat} {x y : Operand} {b bt tot : Nat} {xs ys : List Value} {M1 : List Blk} (hx : ev E x = some (.pointer (some ⟨b, 0, none⟩))) (hy : ev E y = some (.agg ys.toArray)) (ht : TAgg P t sz) (hl : ys.length = sz) (h1 : ys.all Value.oneCell' = true)
    (hr : Rem ⟨b, bt, tot, xs, (0, 0)⟩ M M1) (hl2 : xs.length = sz) : Sr P n D X w0 E M (.store t x y) tt (⟨b, bt, tot, ys, (0, 0)⟩ :: M1) :=
  S_ag hx hy (hl ▸ ht) h1 hr (by omega) (put_all (by omega))

/-! ### New blocks -/
theorem W_alloc {t : TypeId} {xs : List Value} {K : Value → List Blk → Prop} (hz : TZero P t xs) (k : ∀ b, K (.pointer (some ⟨b, 0, none⟩)) (⟨b, t, xs.length, xs, (0, 0)⟩ :: M)) :
    Wr P n D X w0 E M (.alloc t) tt K := fun a w s d pos af g => by
  obtain ⟨z, hzc, hrun⟩ := run_zero (P := P) hz w
  refine ⟨_, { w with heap := w.heap.push (.cells xs.toArray t) }, _, ?_, s.2.alloc t xs.toArray xs xs.length (by simp) (Nat.le_refl _) (by simp), k _⟩
  simp [execOp, Instr.alloc, hrun, newVar, newRow, hzc]
theorem W_boxA {t : TypeId} {x : Operand} {xs : List Value} {K : Value → List Blk → Prop} (hx : ev E x = some (.agg xs.toArray)) (k : ∀ b, K (.pointer (some ⟨b, 0, none⟩)) (⟨b, t, xs.length, xs, (0, 0)⟩ :: M)) :
    Wr P n D X w0 E M (.box t x) tt K := fun a w s d pos af g => by
  refine ⟨_, { w with heap := w.heap.push (.cells xs.toArray t) }, _, ?_, s.2.alloc t xs.toArray xs xs.length (by simp) (Nat.le_refl _) (by simp), k _⟩
  simp [execOp, Instr.box, s.1.ev hx, newVar, newRow, Value.cells]
theorem W_boxS {t : TypeId} {x : Operand} {v : Value} {K : Value → List Blk → Prop} (hx : ev E x = some v) (h1 : v.oneCell' = true) (k : ∀ b, K (.pointer (some ⟨b, 0, none⟩)) (⟨b, t, 1, [v], (0, 0)⟩ :: M)) :
    Wr P n D X w0 E M (.box t x) tt K := fun a w s d pos af g => by
  have hcs : v.cells = #[v] := by cases v <;> simp_all [Value.cells, Value.oneCell']
  refine ⟨_, { w with heap := w.heap.push (.cells #[v] t) }, _, ?_, s.2.alloc t #[v] [v] 1 (by simp) (Nat.le_refl _) (by simp), k _⟩
  simp [execOp, Instr.box, s.1.ev hx, newVar, newRow, hcs]
def evP (E : Env) : List (Nat × Operand) → Option (List (Nat × Value))
  | [] => some []
  | (i, x) :: r => match ev E x, evP E r with
    | some v, some vs => some ((i, v) :: vs)
    | _, _ => none
theorem evP_ok {D : List Deferred} {a : Act} (h : Ok n D E a) : ∀ {l : List (Nat × Operand)} {vs : List (Nat × Value)}, evP E l = some vs → l.map (fun (i, x) => (i, a.eval x)) = vs
  | [], vs, hx => by simpa [evP] using hx
  | (i, x) :: r, vs, hx => by
    simp only [evP] at hx
    split at hx
    · rename_i v us hv hu
      simp at hx
      subst hx
      simp [h.ev hv, evP_ok h hu]
    · simp at hx
theorem Y_build {t : TypeId} {ps : Array (Nat × Operand)} {vs : List (Nat × Value)} {v : Value} (hp : evP E ps.toList = some vs) (h : ∀ w, (Instr.build t vs.toArray).run P w = .ok v w) :
    Yl P n D X w0 E M (.build t ps) tt v := fun a w s d pos af g => by
  have ha : (ps.map fun (i, x) => (i, a.eval x)) = vs.toArray := by
    have := evP_ok s.1 hp
    rw [← this, ← Array.toList_map]
  simp only [execOp, ha]
  rw [Sem.run_bind, h]
  rfl
theorem W_buildSlice {t e len : Nat} {ps : Array (Nat × Operand)} {vs : List (Nat × Value)} {xs : List Value} {K : Value → List Blk → Prop} (hp : evP E ps.toList = some vs)
    (h : ∀ w, (Instr.buildSlice t len vs.toArray).run P w = .ok (.slice (some ⟨w.heap.size, 0, none⟩) len len) { w with heap := w.heap.push (.cells xs.toArray e) })
    (k : ∀ b, K (.slice (some ⟨b, 0, none⟩) len len) (⟨b, e, xs.length, xs, (0, 0)⟩ :: M)) : Wr P n D X w0 E M (.buildSlice t len ps) tt K := fun a w s d pos af g => by
  have ha : (ps.map fun (i, x) => (i, a.eval x)) = vs.toArray := by
    have := evP_ok s.1 hp
    rw [← this, ← Array.toList_map]
  refine ⟨_, _, _, ?_, s.2.alloc e xs.toArray xs xs.length (by simp) (Nat.le_refl _) (by simp), k _⟩
  simp only [execOp, ha]
  rw [Sem.run_bind, h]
  rfl
theorem W_makeSlice {t e l : Nat} {x y : Operand} {v u : Value} {xs : List Value} {K : Value → List Blk → Prop} (hx : ev E x = some v) (hy : ev E y = some u)
    (h : ∀ w, (Instr.makeSlice t v u).run P w = .ok (.slice (some ⟨w.heap.size, 0, none⟩) l xs.length) { w with heap := w.heap.push (.cells xs.toArray e) })
    (k : ∀ b, K (.slice (some ⟨b, 0, none⟩) l xs.length) (⟨b, e, xs.length, xs, (0, 0)⟩ :: M)) : Wr P n D X w0 E M (.makeSlice t x y) tt K := fun a w s d pos af g => by
  refine ⟨_, _, _, ?_, s.2.alloc e xs.toArray xs xs.length (by simp) (Nat.le_refl _) (by simp), k _⟩
  simp only [execOp, s.1.ev hx, s.1.ev hy]
  rw [Sem.run_bind, h]
  rfl
end
end Go.Sl

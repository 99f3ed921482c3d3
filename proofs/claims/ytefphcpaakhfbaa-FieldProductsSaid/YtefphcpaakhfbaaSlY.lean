/-
  The logic's rules for the single operations.
-/
import Derived.Test.YtefphcpaakhfbaaSlRules
namespace Go.Sl
open Go Go.RowKit

/-- A byte as a value; a row of bytes. -/
def bv (b : UInt8) : Value := .int .u8 (b.toNat : Int)
def B (l : List UInt8) : List Value := l.map bv
/-- A word as a value. -/
def wv (x : Nat) : Value := .int .u64 (x : Int)

def nth {α : Type} : List α → Nat → Option α
  | [], _ => none
  | x :: _, 0 => some x
  | _ :: r, i + 1 => nth r i
theorem nth_eq {α : Type} : ∀ (l : List α) (i : Nat), nth l i = l[i]?
  | [], _ => by simp [nth]
  | _ :: _, 0 => by simp [nth]
  | _ :: r, i + 1 => by simpa [nth] using nth_eq r i
/-- A row with one cell written over (as a computation). -/
def setL : List Value → Nat → Value → Option (List Value)
  | [], _, _ => none
  | _ :: r, 0, v => some (v :: r)
  | x :: r, i + 1, v => match setL r i v with
    | some r' => some (x :: r')
    | none => none
theorem setL_put : ∀ {l : List Value} {i : Nat} {v : Value} {l' : List Value}, setL l i v = some l' → i < l.length ∧ put l i [v] = l'
  | [], _, _, _, h => by simp [setL] at h
  | x :: r, 0, v, l', h => by simp [setL] at h; subst h; simp [put]
  | x :: r, i + 1, v, l', h => by
    simp only [setL] at h
    split at h
    · rename_i r' hr
      simp at h
      subst h
      obtain ⟨h1, h2⟩ := setL_put hr
      refine ⟨by simp; omega, ?_⟩
      rw [← h2]
      simp [put]
    · simp at h
theorem setL_of {l : List Value} {i : Nat} {v : Value} (h : i < l.length) : setL l i v = some (l.set i v) := by
  induction l generalizing i with
  | nil => simp at h
  | cons x r ih =>
    cases i with
    | zero => simp [setL]
    | succ i => simp at h; simp [setL, ih h]

def iop (op : BinOp) (k : IntKind) (x y : Int) : Option Value :=
  match op with
  | .add => some (.int k (k.wrap (x + y)))
  | .sub => some (.int k (k.wrap (x - y)))
  | .mul => some (.int k (k.wrap (x * y)))
  | .and => some (.int k (k.wrap (BitVec.ofInt k.bits x &&& BitVec.ofInt k.bits y).toNat))
  | .or => some (.int k (k.wrap (BitVec.ofInt k.bits x ||| BitVec.ofInt k.bits y).toNat))
  | .xor => some (.int k (k.wrap (BitVec.ofInt k.bits x ^^^ BitVec.ofInt k.bits y).toNat))
  | .eql => some (.bool (decide (x = y)))
  | .neq => some (.bool (!decide (x = y)))
  | .lss => some (.bool (decide (x < y)))
  | .leq => some (.bool (decide (x ≤ y)))
  | .gtr => some (.bool (decide (x > y)))
  | .geq => some (.bool (decide (x ≥ y)))
  | _ => none

def pickV (b : Bool) (x y : Value) : Option Value := match b with
  | true => some x
  | false => some y

section
variable {P : Program} {n : Nat} {D : List Deferred} {X : List Nat} {w0 : World} {E : Env} {M : List Blk} {tt : TypeId}

theorem Y_move {x : Operand} {v : Value} (hx : ev E x = some v) : Yl P n D X w0 E M (.move x) tt v := fun a w s d pos af g => by
  simp [execOp, s.1.ev hx]
theorem Y_assign {x : Operand} {v : Value} (hx : ev E x = some v) : Yl P n D X w0 E M (.assign x) tt v := fun a w s d pos af g => by
  simp [execOp, s.1.ev hx]
theorem Y_pick {c x y : Operand} {b : Bool} {u v r : Value} (hc : ev E c = some (.bool b)) (hx : ev E x = some u) (hy : ev E y = some v) (h : pickV b u v = some r) :
    Yl P n D X w0 E M (.pick c x y) tt r := fun a w s d pos af g => by
  cases b <;> simp [pickV] at h <;> subst h <;> simp [execOp, s.1.ev hc, s.1.ev hx, s.1.ev hy, asBool]
theorem Y_nilCheck {x : Operand} {ad : Addr} (hx : ev E x = some (.pointer (some ad))) : Yl P n D X w0 E M (.nilCheck x) tt (.pointer (some ad)) := fun a w s d pos af g => by
  simp [execOp, s.1.ev hx]
theorem Y_nilCheckF {x : Operand} {f : FuncId} {fi c : Array Value} (hx : ev E x = some (.func (.func f) fi c)) : Yl P n D X w0 E M (.nilCheck x) tt (.func (.func f) fi c) := fun a w s d pos af g => by
  simp [execOp, s.1.ev hx]

/-! ### Numbers -/
theorem run_iop {op : BinOp} {k : IntKind} {x y : Int} {v : Value} (h : iop op k x y = some v) (t : TypeId) (xo yo : Operand) (w : World) :
    (do eqGuard op t xo yo (.int k x) (.int k y); binOp op t (.int k x) (.int k y) : Sem Value).run P w = .ok v w := by
  have hg : (eqGuard op t xo yo (.int k x) (.int k y)).run P w = .ok () w := by
    unfold eqGuard; cases op <;> simp
  rw [Sem.run_bind, hg, Result.andThen_ok]
  cases op <;> simp [iop] at h <;> subst h <;> simp [binOp, Op.intArith, Op.intBits, Op.intCmp, bne, BEq.beq]
theorem Y_iop {op : BinOp} {t ty : TypeId} {x y : Operand} {k : IntKind} {a b : Int} {v : Value} (hx : ev E x = some (.int k a)) (hy : ev E y = some (.int k b)) (h : iop op k a b = some v) :
    Yl P n D X w0 E M (.binOp op t x y ty) tt v := fun ac w s d pos af g => by
  simp only [execOp, s.1.ev hx, s.1.ev hy]
  rw [Sem.run_bind, run_iop h]
  rfl
theorem wrap64_nat {k : Nat} (h : k < 9223372036854775808) : IntKind.i64.wrap (k : Int) = k := by
  rw [IntKind.wrap_i64]; omega
/-- Sums, differences, products of ints that are no less than 0 and do not pass the greatest one. -/
theorem Y_addN {t ty : TypeId} {x y : Operand} {a b : Nat} (hx : ev E x = some (.int .i64 (a : Int))) (hy : ev E y = some (.int .i64 (b : Int))) (h : a + b < 9223372036854775808) :
    Yl P n D X w0 E M (.binOp .add t x y ty) tt (.int .i64 ((a + b : Nat) : Int)) :=
  Y_iop hx hy (by simp only [iop]; rw [← Int.natCast_add, wrap64_nat h])
theorem Y_subN {t ty : TypeId} {x y : Operand} {a b : Nat} (hx : ev E x = some (.int .i64 (a : Int))) (hy : ev E y = some (.int .i64 (b : Int))) (h : b ≤ a) (h2 : a < 9223372036854775808) :
    Yl P n D X w0 E M (.binOp .sub t x y ty) tt (.int .i64 ((a - b : Nat) : Int)) :=
  Y_iop hx hy (by simp only [iop]; rw [← Int.natCast_sub h, wrap64_nat (by omega)])
theorem Y_mulN {t ty : TypeId} {x y : Operand} {a b : Nat} (hx : ev E x = some (.int .i64 (a : Int))) (hy : ev E y = some (.int .i64 (b : Int))) (h : a * b < 9223372036854775808) :
    Yl P n D X w0 E M (.binOp .mul t x y ty) tt (.int .i64 ((a * b : Nat) : Int)) :=
  Y_iop hx hy (by simp only [iop]; rw [← Int.natCast_mul, wrap64_nat h])
theorem Y_lssN {t ty : TypeId} {x y : Operand} {k : IntKind} {a b : Nat} (hx : ev E x = some (.int k (a : Int))) (hy : ev E y = some (.int k (b : Int))) :
    Yl P n D X w0 E M (.binOp .lss t x y ty) tt (.bool (decide (a < b))) := Y_iop hx hy (by simp [iop])
theorem Y_leqN {t ty : TypeId} {x y : Operand} {k : IntKind} {a b : Nat} (hx : ev E x = some (.int k (a : Int))) (hy : ev E y = some (.int k (b : Int))) :
    Yl P n D X w0 E M (.binOp .leq t x y ty) tt (.bool (decide (a ≤ b))) := Y_iop hx hy (by simp [iop])
theorem Y_gtrN {t ty : TypeId} {x y : Operand} {k : IntKind} {a b : Nat} (hx : ev E x = some (.int k (a : Int))) (hy : ev E y = some (.int k (b : Int))) :
    Yl P n D X w0 E M (.binOp .gtr t x y ty) tt (.bool (decide (a > b))) := Y_iop hx hy (by simp [iop])
theorem Y_geqN {t ty : TypeId} {x y : Operand} {k : IntKind} {a b : Nat} (hx : ev E x = some (.int k (a : Int))) (hy : ev E y = some (.int k (b : Int))) :
    Yl P n D X w0 E M (.binOp .geq t x y ty) tt (.bool (decide (a ≥ b))) := Y_iop hx hy (by simp [iop])
theorem Y_eqlN {t ty : TypeId} {x y : Operand} {k : IntKind} {a b : Nat} (hx : ev E x = some (.int k (a : Int))) (hy : ev E y = some (.int k (b : Int))) :
    Yl P n D X w0 E M (.binOp .eql t x y ty) tt (.bool (decide (a = b))) := Y_iop hx hy (by simp [iop]; omega)
theorem Y_neqN {t ty : TypeId} {x y : Operand} {k : IntKind} {a b : Nat} (hx : ev E x = some (.int k (a : Int))) (hy : ev E y = some (.int k (b : Int))) :
    Yl P n D X w0 E M (.binOp .neq t x y ty) tt (.bool (decide (a ≠ b))) := Y_iop hx hy (by simp [iop]; omega)
theorem run_div {op : BinOp} {k : IntKind} {x y : Int} (hop : op = .quo ∨ op = .rem) (hy : y ≠ 0) (t : TypeId) (xo yo : Operand) (w : World) :
    (do eqGuard op t xo yo (.int k x) (.int k y); binOp op t (.int k x) (.int k y) : Sem Value).run P w = .ok (.int k (if op = .quo then k.wrap (x.tdiv y) else x.tmod y)) w := by
  rcases hop with rfl | rfl <;> simp [eqGuard, binOp, Op.intDiv, hy]
theorem Y_quoN {t ty : TypeId} {x y : Operand} {a b : Nat} (hx : ev E x = some (.int .i64 (a : Int))) (hy : ev E y = some (.int .i64 (b : Int))) (hb : 0 < b) (ha : a < 9223372036854775808) :
    Yl P n D X w0 E M (.binOp .quo t x y ty) tt (.int .i64 ((a / b : Nat) : Int)) := fun ac w s d pos af g => by
  simp only [execOp, s.1.ev hx, s.1.ev hy]
  rw [Sem.run_bind, run_div (.inl rfl) (by omega)]
  have h1 : (a : Int).tdiv b = ((a / b : Nat) : Int) := by rw [Int.tdiv_eq_ediv_of_nonneg (by omega)]; simp
  have h2 : a / b < 9223372036854775808 := Nat.lt_of_le_of_lt (Nat.div_le_self a b) ha
  simp only [if_true, h1, wrap64_nat h2]
  rfl
theorem Y_remN {t ty : TypeId} {x y : Operand} {a b : Nat} (hx : ev E x = some (.int .i64 (a : Int))) (hy : ev E y = some (.int .i64 (b : Int))) (hb : 0 < b) :
    Yl P n D X w0 E M (.binOp .rem t x y ty) tt (.int .i64 ((a % b : Nat) : Int)) := fun ac w s d pos af g => by
  simp only [execOp, s.1.ev hx, s.1.ev hy]
  rw [Sem.run_bind, run_div (.inr rfl) (by omega)]
  have h1 : (a : Int).tmod b = ((a % b : Nat) : Int) := by rw [Int.tmod_eq_emod_of_nonneg (by omega)]; simp
  simp [h1]
theorem run_shift {op : BinOp} {k yk : IntKind} {x y : Int} (hop : op = .shl ∨ op = .shr) (hy : 0 ≤ y) (t : TypeId) (xo yo : Operand) (w : World) :
    (do eqGuard op t xo yo (.int k x) (.int yk y); binOp op t (.int k x) (.int yk y) : Sem Value).run P w =
      .ok (.int k (if op = .shl then k.wrap (x * 2 ^ (min y.toNat k.bits)) else x.fdiv (2 ^ (min y.toNat k.bits)))) w := by
  have hn : ¬ y < 0 := by omega
  rcases hop with rfl | rfl <;> simp [eqGuard, binOp, Op.shift, hn]
theorem Y_shr {t ty : TypeId} {x y : Operand} {k yk : IntKind} {a : Int} {b : Nat} (hx : ev E x = some (.int k a)) (hy : ev E y = some (.int yk (b : Int))) :
    Yl P n D X w0 E M (.binOp .shr t x y ty) tt (.int k (a.fdiv (2 ^ (min b k.bits)))) := fun ac w s d pos af g => by
  simp only [execOp, s.1.ev hx, s.1.ev hy]
  rw [Sem.run_bind, run_shift (.inr rfl) (by omega)]
  simp
theorem Y_shl {t ty : TypeId} {x y : Operand} {k yk : IntKind} {a : Int} {b : Nat} (hx : ev E x = some (.int k a)) (hy : ev E y = some (.int yk (b : Int))) :
    Yl P n D X w0 E M (.binOp .shl t x y ty) tt (.int k (k.wrap (a * 2 ^ (min b k.bits)))) := fun ac w s d pos af g => by
  simp only [execOp, s.1.ev hx, s.1.ev hy]
  rw [Sem.run_bind, run_shift (.inl rfl) (by omega)]
  simp
theorem Y_shrN {t ty : TypeId} {x y : Operand} {k yk : IntKind} {a b : Nat} (hx : ev E x = some (.int k (a : Int))) (hy : ev E y = some (.int yk (b : Int))) (hb : b ≤ k.bits) :
    Yl P n D X w0 E M (.binOp .shr t x y ty) tt (.int k ((a / 2 ^ b : Nat) : Int)) := fun ac w s d pos af g => by
  rw [Y_shr (P := P) (tt := tt) hx hy ac w s]
  have : min b k.bits = b := by omega
  rw [this, Int.fdiv_eq_ediv_of_nonneg _ (Int.pow_nonneg (by omega))]
  simp
theorem Y_bool {op : BinOp} {t ty : TypeId} {x y : Operand} {b c : Bool} (ht : P.underlying t = some .bool) (hx : ev E x = some (.bool b)) (hy : ev E y = some (.bool c)) (hop : op = .eql ∨ op = .neq) :
    Yl P n D X w0 E M (.binOp op t x y ty) tt (.bool (if op = .eql then b == c else b != c)) := fun ac w s d pos af g => by
  simp only [execOp, s.1.ev hx, s.1.ev hy]
  have he : (Op.equal t (.bool b) (.bool c)).run P w = .ok (b == c) w := run_equalIn_bool' w 9999 t b c ht
  rcases hop with rfl | rfl
  · simp [eqGuard, binOp, he]
  · simp only [eqGuard, binOp, Sem.run_bind]
    simp [he, bne]
theorem Y_not {t : TypeId} {x : Operand} {b : Bool} (hx : ev E x = some (.bool b)) : Yl P n D X w0 E M (.unOp .not t x) tt (.bool (!b)) := fun a w s d pos af g => by
  simp [execOp, s.1.ev hx, Op.unary]
theorem Y_cvt {src dst : TypeId} {x : Operand} {ds : TypeDesc} {k k0 : IntKind} {m : Int} (hs : P.underlying src = some ds) (hd : P.underlying dst = some (.int k)) (hx : ev E x = some (.int k0 m)) :
    Yl P n D X w0 E M (.convert src dst x) tt (.int k (k.wrap m)) := fun a w s d pos af g => by
  simp only [execOp, s.1.ev hx]
  simp [convert, run_underlying hs, run_underlying hd, Conv.intToInt]
theorem wrapN {k : IntKind} {m : Nat} (h : m < 2 ^ (k.bits - 1) ∨ (k.signed = false ∧ m < 2 ^ k.bits)) : k.wrap (m : Int) = m := by
  have hb : 2 ^ k.bits = 2 * 2 ^ (k.bits - 1) := by cases k <;> rfl
  have hlt : m < 2 ^ k.bits := by rcases h with h | h <;> omega
  have hm : (m : Int) % (2 ^ k.bits : Int) = m := by
    rw [Int.emod_eq_of_lt (by omega)]
    exact_mod_cast hlt
  unfold IntKind.wrap
  simp only [hm]
  rcases h with h | h
  · have : ¬ (m : Int) ≥ (2 ^ (k.bits - 1) : Int) := by
      have : (m : Int) < ((2 ^ (k.bits - 1) : Nat) : Int) := by exact_mod_cast h
      simp at this ⊢; omega
    simp [this]
  · simp [h.1]
theorem Y_cvtN {src dst : TypeId} {x : Operand} {ds : TypeDesc} {k k0 : IntKind} {m : Nat} (hs : P.underlying src = some ds) (hd : P.underlying dst = some (.int k)) (hx : ev E x = some (.int k0 (m : Int)))
    (h : m < 2 ^ (k.bits - 1) ∨ (k.signed = false ∧ m < 2 ^ k.bits)) : Yl P n D X w0 E M (.convert src dst x) tt (.int k (m : Int)) := by
  have := Y_cvt (P := P) (n := n) (D := D) (X := X) (w0 := w0) (M := M) (tt := tt) hs hd hx
  rwa [wrapN h] at this
/-- A byte of a number. -/
theorem Y_byteN {src dst : TypeId} {x : Operand} {ds : TypeDesc} {k0 : IntKind} {m : Nat} (hs : P.underlying src = some ds) (hd : P.underlying dst = some (.int .u8)) (hx : ev E x = some (.int k0 (m : Int))) :
    Yl P n D X w0 E M (.convert src dst x) tt (bv (UInt8.ofNat m)) := by
  have := Y_cvt (P := P) (n := n) (D := D) (X := X) (w0 := w0) (M := M) (tt := tt) hs hd hx
  have e : IntKind.u8.wrap (m : Int) = ((UInt8.ofNat m).toNat : Int) := by
    have : (IntKind.u8.bits) = 8 := rfl
    simp [IntKind.wrap, IntKind.signed, this]
  rwa [e] at this
/-- A number of a byte. -/
theorem Y_ofByte {src dst : TypeId} {x : Operand} {ds : TypeDesc} {k : IntKind} {b : UInt8} (hs : P.underlying src = some ds) (hd : P.underlying dst = some (.int k)) (hk : 255 < 2 ^ (k.bits - 1)) (hx : ev E x = some (bv b)) :
    Yl P n D X w0 E M (.convert src dst x) tt (.int k (b.toNat : Int)) := by
  refine Y_cvtN (k0 := .u8) hs hd hx (.inl ?_)
  have := b.toNat_lt
  omega

/-! ### Strings -/
theorem foldl_bytes : ∀ (l : List UInt8) (r : ByteArray), (l.map fun b => (b.toNat : Int)).foldl (fun r n => r.push (UInt8.ofNat n.toNat)) r = ⟨r.data ++ l.toArray⟩
  | [], r => by simp
  | b :: l, r => by
    simp only [List.map_cons, List.foldl_cons]
    rw [foldl_bytes l]
    cases r
    simp [ByteArray.push]
theorem run_str {w : World} {ao : Option Addr} {l c : Nat} {bs : List UInt8} (hl : bs.length = l) (hb : SlAt w ao (B bs)) : (Conv.bytesToString (.slice ao l c)).run P w = .ok (.string ⟨bs.toArray⟩) w := by
  cases bs with
  | nil =>
    subst hl
    cases ao with
    | none => simp [Conv.bytesToString]; rfl
    | some ad =>
      have := run_bytesToString (P := P) w ad 0 c [] (by simp [loadCells, loadCellsFrom])
      exact this
  | cons b r =>
    have ha := hb.addr (by simp [B])
    have hc := hb.cells
    have hld := run_loadCells_at (P := P) hc
    rw [ha]
    have hlen : (B (b :: r)).length = l := by simpa [B] using hl
    rw [hlen] at hld
    have he : B (b :: r) = ((b :: r).map fun x => (x.toNat : Int)).map (Value.int .u8) := by simp [B, bv]
    rw [he] at hld
    rw [run_bytesToString (P := P) w _ l c _ hld, foldl_bytes]
    simp
theorem Y_str {src dst e : TypeId} {x : Operand} {ao : Option Addr} {l c : Nat} {bs : List UInt8} (hs : P.underlying src = some (.slice e)) (he : P.underlying e = some (.int .u8)) (hd : P.underlying dst = some .string)
    (hx : ev E x = some (.slice ao l c)) (hl : bs.length = l) (hb : ∀ w, SL X M w0 w → SlAt w ao (B bs)) : Yl P n D X w0 E M (.convert src dst x) tt (.string ⟨bs.toArray⟩) := fun a w s d pos af g => by
  simp only [execOp, s.1.ev hx]
  rw [Sem.run_bind, run_convert_bytes_string w src dst e ao l c hs he hd, run_str hl (hb w s.2)]
  rfl
theorem toList_mk (l : List UInt8) : (ByteArray.mk l.toArray).toList = l := by
  simp [ByteArray.toList_eq]
theorem beq_dec (l m : List UInt8) : (l == m) = decide (l = m) := by rw [Bool.eq_iff_iff]; simp
theorem Y_eqstr {t ty : TypeId} {x y : Operand} {l m : List UInt8} (hx : ev E x = some (.string ⟨l.toArray⟩)) (hy : ev E y = some (.string ⟨m.toArray⟩)) :
    Yl P n D X w0 E M (.binOp .eql t x y ty) tt (.bool (decide (l = m))) := fun a w s d pos af g => by
  simp only [execOp, s.1.ev hx, s.1.ev hy]
  simp [eqGuard, binOp, Op.stringOp, beq_dec]
theorem Y_neqstr {t ty : TypeId} {x y : Operand} {l m : List UInt8} (hx : ev E x = some (.string ⟨l.toArray⟩)) (hy : ev E y = some (.string ⟨m.toArray⟩)) :
    Yl P n D X w0 E M (.binOp .neq t x y ty) tt (.bool (!decide (l = m))) := fun a w s d pos af g => by
  simp only [execOp, s.1.ev hx, s.1.ev hy]
  simp [eqGuard, binOp, Op.stringOp, beq_dec]
end
end Go.Sl

/-
  Rules for words.
-/
import Derived.Test.YtefphcpaakhfbaaFD
namespace Go.Proofs.Ytefphcpaakhfbaa
open Go Go.Sl Go.RowKit Go.Fp
theorem _root_.Go.Sl.FnAt.ret {P : Program} {f : FuncId} {args : List Value} {A : List Blk} {w : World} {K K' : Value → List Blk → Prop} (h : FnAt P f args A w (Ret K)) (hk : ∀ v N, K v N → K' v N) : FnAt P f args A w (Ret K') :=
  h.mono fun e N q => match e, q with
    | .returned v, q => hk v N q
theorem wrapU (n : Nat) : IntKind.u64.wrap (n : Int) = ((n % w64 : Nat) : Int) := by
  have hb : IntKind.u64.bits = 64 := rfl
  have hs : IntKind.u64.signed = false := rfl
  simp [IntKind.wrap, hb, hs, w64]
section
variable {n : Nat} {D : List Deferred} {X : List Nat} {w0 : World} {E : Env} {M : List Blk} {tt t ty : TypeId} {x y : Operand} {a b : Nat}
theorem Y_addU (hx : ev E x = some (wv a)) (hy : ev E y = some (wv b)) : Yl Try.prog n D X w0 E M (.binOp .add t x y ty) tt (wv ((a + b) % w64)) :=
  Y_iop hx hy (by simp only [iop, wv]; rw [← Int.natCast_add, wrapU])
theorem Y_mulU (hx : ev E x = some (wv a)) (hy : ev E y = some (wv b)) : Yl Try.prog n D X w0 E M (.binOp .mul t x y ty) tt (wv ((a * b) % w64)) :=
  Y_iop hx hy (by simp only [iop, wv]; rw [← Int.natCast_mul, wrapU])
theorem iop_andU {k : Nat} (ha : a < w64) (hk : k < 64) : iop .and .u64 (a : Int) ((2 ^ k - 1 : Nat) : Int) = some (wv (a % 2 ^ k)) := by
  have hw : 2 ^ k - 1 < 2 ^ 64 := by
    have : 2 ^ k < 2 ^ 64 := Nat.pow_lt_pow_right (by decide) hk
    omega
  have e : (BitVec.ofInt 64 (a : Int) &&& BitVec.ofInt 64 ((2 ^ k - 1 : Nat) : Int)).toNat = a % 2 ^ k := by
    rw [BitVec.toNat_and, BitVec.ofInt_natCast, BitVec.ofInt_natCast, BitVec.toNat_ofNat, BitVec.toNat_ofNat, Nat.mod_eq_of_lt (show a < 2 ^ 64 from ha), Nat.mod_eq_of_lt hw, Nat.and_two_pow_sub_one_eq_mod]
  show some (Value.int .u64 (IntKind.u64.wrap (BitVec.ofInt 64 (a : Int) &&& BitVec.ofInt 64 ((2 ^ k - 1 : Nat) : Int)).toNat)) = _
  have hlt : a % 2 ^ k < w64 := Nat.lt_of_le_of_lt (Nat.mod_le _ _) ha
  rw [e, wrapU, Nat.mod_eq_of_lt hlt]
  rfl
theorem Y_shlU (hx : ev E x = some (wv a)) {yk : IntKind} (hy : ev E y = some (.int yk (b : Int))) (hb : b ≤ 64) : Yl Try.prog n D X w0 E M (.binOp .shl t x y ty) tt (wv ((a * 2 ^ b) % w64)) := by
  have h1 := Y_shl (P := Try.prog) (n := n) (D := D) (X := X) (w0 := w0) (M := M) (tt := tt) (t := t) (ty := ty) hx hy
  refine h1.as _ ?_
  have e : min b IntKind.u64.bits = b := Nat.min_eq_left hb
  have e2 : ((a : Int) * 2 ^ b) = ((a * 2 ^ b : Nat) : Int) := by simp
  rw [e, e2, wrapU]
  rfl
theorem Y_shrU (hx : ev E x = some (wv a)) {yk : IntKind} (hy : ev E y = some (.int yk (b : Int))) (hb : b ≤ 64) : Yl Try.prog n D X w0 E M (.binOp .shr t x y ty) tt (wv (a / 2 ^ b)) := Y_shrN hx hy hb
end
end Go.Proofs.Ytefphcpaakhfbaa

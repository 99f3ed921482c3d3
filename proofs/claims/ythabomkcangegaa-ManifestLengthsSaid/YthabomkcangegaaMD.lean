/-
  Manifests as data.
-/
import Derived.Test.YthabomkcangegaaSlR
namespace Go.Proofs.Ythabomkcangegaa
open Go Go.Sl Go.RowKit

structure SegD where
  load : Int
  bytes : Int
  dig : List UInt8
  len : dig.length = 32
deriving DecidableEq
structure ManD where
  ver : Int
  sec : Int
  key : Int
  ent : Int
  segs : List SegD
deriving DecidableEq
def segL (s : SegD) : List Value := .int .i64 s.load :: .int .i64 s.bytes :: B s.dig
def segsL (r : List SegD) : List Value := recL segL r
def manL (m : ManD) (ao : Option Addr) (c : Nat) : List Value := [.int .i64 m.ver, .int .i64 m.sec, .int .i64 m.key, .int .i64 m.ent, .slice ao m.segs.length c]
theorem segL_len (s : SegD) : (segL s).length = 34 := by simp [segL, len_B, s.len]
theorem segL_all (s : SegD) : (segL s).all Value.oneCell' = true := by
  simp only [segL, List.all_cons, all_B, Value.oneCell']
  rfl
theorem seg_dig (s : SegD) : ((segL s).drop 2).take 32 = B s.dig := by
  simp only [segL, List.drop_succ_cons, List.drop_zero]
  exact List.take_of_length_le (by rw [len_B, s.len]; omega)
theorem segAt {w : World} {b : Nat} {s : SegD} (h : CellsAt w b 0 (segL s)) : SlAt w (some ⟨b, 0 + 2, none⟩) (B s.dig) := by
  have := h.sub 2 32
  rw [seg_dig] at this
  exact SlAt.mk' this

/-! ## May -/
def inB (n : Int) : Bool := decide (0 ≤ n ∧ n ≤ 2147483647)
def segOk : Int → List SegD → Bool
  | _, [] => true
  | e, s :: r => decide (0 ≤ s.load ∧ s.load ≤ 2147483647 ∧ 0 ≤ s.bytes ∧ s.bytes ≤ 1048576 ∧ e ≤ s.load ∧ s.load + s.bytes ≤ 2147483647) && segOk (s.load + s.bytes) r
def mayM (m : ManD) : Bool := inB m.ver && inB m.sec && inB m.key && inB m.ent && decide (m.segs.length ≤ 8) && segOk 0 m.segs
theorem mayM_eq (m : ManD) : mayM m = ([m.ver, m.sec, m.key, m.ent].all inB && decide (m.segs.length ≤ 8) && segOk 0 m.segs) := by simp [mayM, Bool.and_assoc]
theorem segOk_cons (e : Int) (s : SegD) (r : List SegD) : segOk e (s :: r) = ([s.load, s.bytes].all inB && (decide (s.bytes ≤ 1048576) && decide (s.load ≥ e) && decide (s.load + s.bytes ≤ 2147483647)) && segOk (s.load + s.bytes) r) := by
  simp only [segOk, List.all_cons, List.all_nil, inB, Bool.and_true]
  congr 1
  rw [Bool.eq_iff_iff]
  simp only [Bool.and_eq_true, decide_eq_true_eq]
  omega
theorem iop_add {a b : Int} (h : -9223372036854775808 ≤ a + b) (h2 : a + b < 9223372036854775808) : iop .add .i64 a b = some (.int .i64 (a + b)) := by
  simp only [iop]; rw [IntKind.wrap_i64]; congr 2; omega
/-- What need panics with. -/
def badE : PanicEntry := { v := .iface 61 (.agg #[]), recovered := false }
/-- It returns where b holds, else it gives up. -/
def PN (b : Bool) (e : Ending) (N : List Blk) : Prop := N = [] ∧ ((b = true ∧ e = .returned (.tuple #[])) ∨ (b = false ∧ e = .panicked [badE]))
end Go.Proofs.Ythabomkcangegaa

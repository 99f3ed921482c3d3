/-
  Per-type facts; rules for a ring that came in.
-/
import Derived.Test.YtkdodpcafamhaaaKD
import Derived.Test.YtkdodpcafamhaaaRows
namespace Go.Proofs.Ytkdodpcafamhaaa
open Go Go.Sl Go.RowKit

theorem ag28 : TAgg Try.prog 28 32 := ⟨_, Try.underlying28, rfl, by kernel_rfl⟩
theorem ag39 : TAgg Try.prog 39 34 := ⟨_, Try.underlying39, rfl, by kernel_rfl⟩
theorem ar28 : TArr Try.prog 28 32 5 1 := ⟨Try.underlying28, by kernel_rfl⟩
theorem eg28 : Try.prog.eqGuardType Try.prog.depth 28 = false := by kernel_rfl
theorem eg39 : Try.prog.eqGuardType Try.prog.depth 39 = false := by kernel_rfl
theorem el39 : TEl Try.prog 39 34 48 := TEl.mk' (by kernel_rfl)
theorem el5 : TEl Try.prog 5 1 1 := TEl.mk' (by kernel_rfl)
theorem fd39_0 : TFld Try.prog 39 0 0 := TFld.mk' Try.underlying39 rfl rfl (by kernel_rfl) (by decide : 1 ≠ 0)
theorem fd39_1 : TFld Try.prog 39 1 1 := TFld.mk' Try.underlying39 rfl rfl (by kernel_rfl) (by decide : 32 ≠ 0)
theorem fd39_2 : TFld Try.prog 39 2 33 := TFld.mk' Try.underlying39 rfl rfl (by kernel_rfl) (by decide : 1 ≠ 0)
theorem sc3 : TScal Try.prog 3 := ⟨_, Try.underlying3, rfl, by kernel_rfl⟩
theorem sc4 : TScal Try.prog 4 := ⟨_, Try.underlying4, rfl, by kernel_rfl⟩
theorem sc5 : TScal Try.prog 5 := ⟨_, Try.underlying5, rfl, by kernel_rfl⟩
theorem sl22 : TSli Try.prog 22 39 34 := ⟨Try.underlying22, by kernel_rfl⟩
theorem sl24 : TSli Try.prog 24 5 1 := ⟨Try.underlying24, by kernel_rfl⟩
theorem sl41 : TSli Try.prog 41 3 1 := ⟨Try.underlying41, by kernel_rfl⟩
theorem ti28 : TInts Try.prog 28 32 5 := ⟨Try.underlying28, ⟨_, Try.underlying5⟩, ⟨_, Try.underlying5, rfl, by kernel_rfl⟩⟩
theorem zr28 : TZero Try.prog 28 (List.replicate 32 (bv 0)) := by unfold TZero; kernel_rfl
theorem zr39 : TZero Try.prog 39 ([(.int .i64 0)] ++ List.replicate 32 (bv 0) ++ [(.bool false)]) := by unfold TZero; kernel_rfl
section
variable {n : Nat} {D : List Deferred} {X : List Nat} {w0 : World} {E : Env} {M : List Blk} {tt : TypeId} {ao : Option Addr} {l c j : Nat} {x i : Operand} {k : IntKind} {ring : List KeyD} {kd : KeyD}
theorem ringNe (hk : ring[j]? = some kd) : ringL ring ≠ [] := fun e => by
  have h1 := ringL_len ring
  obtain ⟨hlt, _⟩ := List.getElem?_eq_some_iff.1 hk
  rw [e] at h1; simp only [List.length_nil] at h1; omega
theorem Y_rAt (hs : SlAt w0 ao (ringL ring)) (hx : ev E x = some (.slice ao l c)) (hi : ev E i = some (.int k (j : Int))) (hk : ring[j]? = some kd) (hl : l = ring.length) :
    Yl Try.prog n D X w0 E M (.indexAddr 22 x i) tt (.pointer (some ⟨adb ao, ado ao + j * 34, none⟩)) :=
  Y_idxS sl22 hx (hs.addr (ringNe hk)) hi (by rw [hl]; exact (List.getElem?_eq_some_iff.1 hk).1)
theorem Y_rKey (hs : SlAt w0 ao (ringL ring)) (hX : adb ao ∉ X) (hx : ev E x = some (.pointer (some ⟨adb ao, ado ao + j * 34, none⟩))) (hk : ring[j]? = some kd) :
    Yl Try.prog n D X w0 E M (.load 39 x) tt (.agg (keyL kd).toArray) := by
  have h := hs.cells.sub (j * 34) 34
  rw [ringL_at hk] at h
  exact Y_loadXA hx (by rw [keyL_len]; exact ag39) h hX
theorem Y_rNum (hs : SlAt w0 ao (ringL ring)) (hX : adb ao ∉ X) (hx : ev E x = some (.pointer (some ⟨adb ao, ado ao + j * 34 + 0, none⟩))) (hk : ring[j]? = some kd) :
    Yl Try.prog n D X w0 E M (.load 3 x) tt (.int .i64 kd.num) :=
  Y_loadX hx sc3 hs.cells hX (by omega) (ringL_get (i := 0) hk rfl)
theorem Y_rRev (hs : SlAt w0 ao (ringL ring)) (hX : adb ao ∉ X) (hx : ev E x = some (.pointer (some ⟨adb ao, ado ao + j * 34 + 33, none⟩))) (hk : ring[j]? = some kd) :
    Yl Try.prog n D X w0 E M (.load 4 x) tt (.bool kd.rev) :=
  Y_loadX hx sc4 hs.cells hX (by omega) (ringL_get (i := 33) hk (key_rev kd))
theorem rBytes (hs : SlAt w0 ao (ringL ring)) (hk : ring[j]? = some kd) : CellsAt w0 (adb ao) (ado ao + j * 34 + 1) (B kd.bytes) := by
  have h := (hs.cells.sub (j * 34) 34).sub 1 32
  rw [ringL_at hk, key_bytes] at h
  exact h
theorem Y_rBytes (hs : SlAt w0 ao (ringL ring)) (hX : adb ao ∉ X) (hx : ev E x = some (.pointer (some ⟨adb ao, ado ao + j * 34 + 1, none⟩))) (hk : ring[j]? = some kd) :
    Yl Try.prog n D X w0 E M (.load 28 x) tt (.agg (B kd.bytes).toArray) :=
  Y_loadXA hx (by rw [len_B, kd.len]; exact ag28) (rBytes hs hk) hX
theorem Y_rNumN {m : Nat} (hs : SlAt w0 ao (ringL ring)) (hX : adb ao ∉ X) (hx : ev E x = some (.pointer (some ⟨adb ao, ado ao + j * 34 + 0, none⟩))) (hk : ring[j]? = some kd) (hm : kd.num = (m : Int)) :
    Yl Try.prog n D X w0 E M (.load 3 x) tt (.int .i64 (m : Int)) := by
  have := Y_rNum (n := n) (D := D) (M := M) (tt := tt) hs hX hx hk
  rwa [hm] at this
theorem keyAt {w : World} {b : Nat} {k : KeyD} (h : CellsAt w b 0 (keyL k)) : SlAt w (some ⟨b, 0 + 1, none⟩) (B k.bytes) := by
  have := h.sub 1 32
  rw [key_bytes] at this
  exact SlAt.mk' this
theorem setrev_ok {r : List KeyD} {j : Nat} {k : KeyD} (hk : r[j]? = some k) : setL (ringL r) (0 + j * 34 + 33) (.bool true) = some (ringL (r.set j { k with rev := true })) := by
  have hlt := (List.getElem?_eq_some_iff.1 hk).1
  rw [Nat.zero_add, setL_of (by rw [ringL_len]; omega), ringL_setrev hk]
def z32 : List UInt8 := List.replicate 32 0
theorem bz28 (w : World) : (Instr.build 28 #[]).run Try.prog w = .ok (.agg (B z32).toArray) w := run_build w 28 #[] _ (by kernel_rfl)
end
theorem _root_.Go.Sl.Yl.as {P : Program} {n : Nat} {D : List Deferred} {X : List Nat} {w0 : World} {E : Env} {M : List Blk} {op : Op} {tt : TypeId} {v : Value} (v' : Value) (h : Yl P n D X w0 E M op tt v) (e : v = v') : Yl P n D X w0 E M op tt v' := e ▸ h
end Go.Proofs.Ytkdodpcafamhaaa

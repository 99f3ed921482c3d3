/-
  Manifests' bytes; numbers.
-/
import Derived.Test.YthabomkcangegaaMD
namespace Go.Proofs.Ythabomkcangegaa
open Go Go.Sl Go.RowKit

def le4 (n : Nat) : List UInt8 := [UInt8.ofNat n, UInt8.ofNat (n / 2 ^ 8), UInt8.ofNat (n / 2 ^ 16), UInt8.ofNat (n / 2 ^ 24)]
theorem u8mod (n : Nat) : UInt8.ofNat (n % 256) = UInt8.ofNat n := by
  apply UInt8.toNat_inj.1; simp
def num4 (a b c d : UInt8) : Nat := a.toNat + b.toNat * 2 ^ 8 + c.toNat * 2 ^ 16 + d.toNat * 2 ^ 24
theorem num4_le4 {n : Nat} (h : n < 4294967296) : num4 (UInt8.ofNat n) (UInt8.ofNat (n / 2 ^ 8)) (UInt8.ofNat (n / 2 ^ 16)) (UInt8.ofNat (n / 2 ^ 24)) = n := by
  simp only [num4, UInt8.toNat_ofNat']
  omega
theorem num4_lt (a b c d : UInt8) : num4 a b c d < 4294967296 := by
  have := a.toNat_lt; have := b.toNat_lt; have := c.toNat_lt; have := d.toNat_lt
  unfold num4; omega
theorem num_ref (a b c d : UInt8) : 256 * (256 * (256 * (256 * 0 + d.toNat) + c.toNat) + b.toNat) + a.toNat = num4 a b c d := by unfold num4; omega
theorem or_disj {a b k : Nat} (ha : a < 2 ^ k) : a ||| b * 2 ^ k = a + b * 2 ^ k := by
  rw [Nat.or_comm, Nat.mul_comm, ← Nat.two_pow_add_eq_or_of_lt ha, Nat.add_comm]
theorem iop_or {a b k : Nat} (ha : a < 2 ^ k) (h : a + b * 2 ^ k < 9223372036854775808) : iop .or .i64 (a : Int) ((b * 2 ^ k : Nat) : Int) = some (.int .i64 ((a + b * 2 ^ k : Nat) : Int)) := by
  have e : (BitVec.ofInt 64 (a : Int) ||| BitVec.ofInt 64 ((b * 2 ^ k : Nat) : Int)).toNat = a + b * 2 ^ k := by
    rw [BitVec.toNat_or, BitVec.ofInt_natCast, BitVec.ofInt_natCast, BitVec.toNat_ofNat, BitVec.toNat_ofNat, Nat.mod_eq_of_lt (by omega), Nat.mod_eq_of_lt (by omega), or_disj ha]
  show some (Value.int .i64 (IntKind.i64.wrap (BitVec.ofInt 64 (a : Int) ||| BitVec.ofInt 64 ((b * 2 ^ k : Nat) : Int)).toNat)) = _
  rw [e, wrap64_nat h]
def segBytes (s : SegD) : List UInt8 := le4 s.load.toNat ++ le4 s.bytes.toNat ++ s.dig
def headNums (m : ManD) : List Nat := [m.ver.toNat, m.sec.toNat, m.key.toNat, m.ent.toNat, m.segs.length]
def bytesM (m : ManD) : List UInt8 := [109, 97, 110, 105] ++ (headNums m).flatMap le4 ++ m.segs.flatMap segBytes
theorem segBytes_len (s : SegD) : (segBytes s).length = 40 := by simp [segBytes, le4, s.len]
theorem flat_len : ∀ r : List SegD, (r.flatMap segBytes).length = r.length * 40
  | [] => rfl
  | k :: r => by
    simp only [List.flatMap_cons, List.length_append, segBytes_len, List.length_cons, flat_len r]; omega
theorem head_len (m : ManD) : ((headNums m).flatMap le4).length = 20 := rfl
theorem bytesM_len (m : ManD) : (bytesM m).length = 24 + m.segs.length * 40 := by
  simp only [bytesM, List.length_append, flat_len, head_len, List.length_cons, List.length_nil]
/-- What holds of a segment of a manifest that may be. -/
theorem segOk_at : ∀ {r : List SegD} {e : Int} {i : Nat} {s : SegD}, segOk e r = true → r[i]? = some s → 0 ≤ s.load ∧ s.load ≤ 2147483647 ∧ 0 ≤ s.bytes ∧ s.bytes ≤ 1048576
  | [], _, _, _, _, h => by simp at h
  | k :: r, e, 0, s, h, hs => by
    simp at hs; subst hs
    simp [segOk] at h
    omega
  | k :: r, e, i + 1, s, h, hs => by
    simp at hs
    simp [segOk] at h
    exact segOk_at h.2 hs
theorem may_of {m : ManD} (h : mayM m = true) : (0 ≤ m.ver ∧ m.ver ≤ 2147483647) ∧ (0 ≤ m.sec ∧ m.sec ≤ 2147483647) ∧ (0 ≤ m.key ∧ m.key ≤ 2147483647) ∧ (0 ≤ m.ent ∧ m.ent ≤ 2147483647) ∧ m.segs.length ≤ 8 ∧ segOk 0 m.segs = true := by
  simp only [mayM, inB, Bool.and_eq_true, decide_eq_true_eq] at h
  exact ⟨h.1.1.1.1.1, h.1.1.1.1.2, h.1.1.1.2, h.1.1.2, h.1.2, h.2⟩
theorem flat_step {r : List SegD} {j : Nat} {s : SegD} {pre bs : List UInt8} (hk : r[j]? = some s) (h : bs = pre ++ (r.take j).flatMap segBytes) :
    bs ++ [s.load.toNat, s.bytes.toNat].flatMap le4 ++ s.dig = pre ++ (r.take (j + 1)).flatMap segBytes := by
  subst h
  rw [List.take_add_one, hk]
  simp [segBytes]
theorem flat_len' {r : List SegD} {j : Nat} {pre bs : List UInt8} (hj : j ≤ r.length) (h : bs = pre ++ (r.take j).flatMap segBytes) : bs.length = pre.length + j * 40 := by
  subst h
  simp only [List.length_append, flat_len, List.length_take]
  omega
end Go.Proofs.Ythabomkcangegaa

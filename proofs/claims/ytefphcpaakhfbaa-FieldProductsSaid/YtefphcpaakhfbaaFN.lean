/-
  Numbers as bytes and as words, the lowest first; rows that are filled one by one.
-/
import Derived.Test.YtefphcpaakhfbaaF3
namespace Go.Proofs.Ytefphcpaakhfbaa
open Go Go.Sl Go.RowKit Go.Fp

def leN : List UInt8 → Nat
  | [] => 0
  | b :: r => b.toNat + 256 * leN r
theorem leN_lt : ∀ l : List UInt8, leN l < 256 ^ l.length
  | [] => by simp [leN]
  | b :: r => by
    have h1 := leN_lt r
    have h2 := b.toNat_lt
    simp only [leN, List.length_cons, Nat.pow_succ]
    omega
theorem leN_digit : ∀ (l : List UInt8) (i : Nat) (h : i < l.length), leN l / 256 ^ i % 256 = l[i].toNat
  | [], _, h => by simp at h
  | b :: r, 0, _ => by
    have h2 := b.toNat_lt
    simp only [leN, Nat.pow_zero, Nat.div_one, List.getElem_cons_zero]
    omega
  | b :: r, i + 1, h => by
    have h2 := b.toNat_lt
    have ih := leN_digit r i (by simpa using h)
    have e : leN (b :: r) / 256 = leN r := by simp only [leN]; omega
    rw [Nat.pow_succ', ← Nat.div_div_eq_div_mul, e, ih]
    rfl
def dg : Nat → Nat → List UInt8
  | 0, _ => []
  | n + 1, x => UInt8.ofNat (x % 256) :: dg n (x / 256)
theorem dg_len : ∀ n x, (dg n x).length = n
  | 0, _ => rfl
  | n + 1, x => by simp [dg, dg_len n]
theorem u8_val (x : Nat) : (UInt8.ofNat (x % 256)).toNat = x % 256 := by simp
theorem leN_dg : ∀ n x, leN (dg n x) = x % 256 ^ n
  | 0, x => by simp [dg, leN, Nat.mod_one]
  | n + 1, x => by
    simp only [dg, leN, leN_dg n, u8_val]
    rw [Nat.pow_succ', Nat.mod_mul]
theorem dg_leN : ∀ l : List UInt8, dg l.length (leN l) = l
  | [] => rfl
  | b :: r => by
    have h2 := b.toNat_lt
    have e1 : leN (b :: r) % 256 = b.toNat := by simp only [leN]; omega
    have e2 : leN (b :: r) / 256 = leN r := by simp only [leN]; omega
    simp only [List.length_cons, dg, e1, e2, dg_leN r]
    simp
theorem dg_get : ∀ (n x i : Nat) (h : i < (dg n x).length), (dg n x)[i] = UInt8.ofNat (x / 256 ^ i % 256)
  | 0, x, i, h => by simp [dg] at h
  | n + 1, x, 0, h => by simp [dg]
  | n + 1, x, i + 1, h => by
    have ih := dg_get n (x / 256) i (by simpa [dg] using h)
    simp only [dg, List.getElem_cons_succ, ih]
    rw [Nat.pow_succ', ← Nat.div_div_eq_div_mul]
theorem leN_inj {l m : List UInt8} (hl : l.length = m.length) (h : leN l = leN m) : l = m := by
  rw [← dg_leN l, ← dg_leN m, hl, h]
def le32 (x : Nat) : List UInt8 := dg 32 x
theorem le32_len (x : Nat) : (le32 x).length = 32 := dg_len 32 x
theorem p256 : 256 ^ 32 = w256 := by decide
theorem leN_le32 {x : Nat} (h : x < w256) : leN (le32 x) = x := by
  unfold le32; rw [leN_dg, p256, Nat.mod_eq_of_lt h]
theorem le32_leN {l : List UInt8} (h : l.length = 32) : le32 (leN l) = l := by
  have := dg_leN l; rwa [h] at this
theorem leN_lt32 {l : List UInt8} (h : l.length = 32) : leN l < w256 := by
  have := leN_lt l; rwa [h, p256] at this
theorem le32_zero : le32 0 = List.replicate 32 0 := by decide

/-! ## Rows that are filled -/
def fl {α : Type} (l : List α) (z : α) (n : Nat) : List α := l.take n ++ List.replicate (l.length - n) z
theorem fl_zero {α : Type} (l : List α) (z : α) : fl l z 0 = List.replicate l.length z := by simp [fl]
theorem fl_all {α : Type} (l : List α) (z : α) : fl l z l.length = l := by simp [fl]
theorem fl_len {α : Type} (l : List α) (z : α) (n : Nat) : (fl l z n).length = l.length := by simp [fl]; omega
theorem fl_set {α : Type} (l : List α) (z : α) (n : Nat) (h : n < l.length) : (fl l z n).set n l[n] = fl l z (n + 1) := by
  unfold fl
  have e : l.length - n = (l.length - (n + 1)) + 1 := by omega
  have hl : (l.take n).length = n := by simp; omega
  rw [e, List.replicate_succ, List.set_append_right _ _ (by omega), hl, Nat.sub_self, List.set_cons_zero]
  have e2 : l.take (n + 1) = l.take n ++ [l[n]] := by rw [List.take_add_one, List.getElem?_eq_getElem h]; rfl
  rw [e2, List.append_assoc]
  rfl
theorem fl_get {α : Type} (l : List α) (z : α) (n : Nat) (h : n < l.length) : (fl l z n)[n]? = some z := by
  unfold fl
  have hl : (l.take n).length = n := by simp; omega
  rw [List.getElem?_append_right (by omega), hl, Nat.sub_self]
  have : 0 < l.length - n := by omega
  simp [this]
/-- Words as values. -/
def W (l : List Nat) : List Value := l.map wv
theorem W_len (l : List Nat) : (W l).length = l.length := by simp [W]
theorem nth_W {l : List Nat} {i v : Nat} (h : l[i]? = some v) : nth (W l) i = some (wv v) := by
  rw [nth_eq]; simp [W, h]
theorem nth_W0 {l : List Nat} {i v : Nat} (h : l[i]? = some v) : nth (W l) (0 + i) = some (wv v) := by rw [Nat.zero_add]; exact nth_W h
theorem nth_B0 {l : List UInt8} {i : Nat} (h : i < l.length) : nth (B l) (0 + i) = some (bv l[i]) := by rw [Nat.zero_add]; exact nth_B h
theorem setL_B0 {l : List UInt8} {i : Nat} (h : i < l.length) (b : UInt8) : setL (B l) (0 + i) (bv b) = some (B (l.set i b)) := by rw [Nat.zero_add]; exact setL_B h b
theorem setL_W0 {l : List Nat} {i : Nat} (h : i < l.length) (v : Nat) : setL (W l) (0 + i) (wv v) = some (W (l.set i v)) := by
  rw [Nat.zero_add, setL_of (by rw [W, List.length_map]; exact h)]; simp [W, List.map_set]
theorem setL_W {l : List Nat} {i : Nat} (h : i < l.length) (v : Nat) : setL (W l) i (wv v) = some (W (l.set i v)) := by
  rw [setL_of (by rw [W_len]; exact h)]; simp [W, List.map_set]
theorem all_W (l : List Nat) : (W l).all Value.oneCell' = true := by
  simp only [W, List.all_map]
  exact List.all_eq_true.2 fun x _ => rfl

/-! ## Words of bytes -/
theorem w64_pow (i : Nat) : w64 ^ i = 256 ^ (8 * i) := by
  rw [Nat.pow_mul]; rfl
/-- A byte of a word. -/
theorem wd_byte (x i k : Nat) (hk : k < 8) : wd x i / 256 ^ k % 256 = x / 256 ^ (8 * i + k) % 256 := by
  unfold wd
  have e : w64 = 256 ^ k * (256 * 256 ^ (7 - k)) := by
    have h8 : w64 = 256 ^ 8 := by decide
    rw [h8, ← Nat.pow_succ', ← Nat.pow_add]
    congr 1; omega
  rw [w64_pow, Nat.pow_add, ← Nat.div_div_eq_div_mul]
  generalize x / 256 ^ (8 * i) = y
  rw [e, Nat.mod_mul_right_div_self, Nat.mod_mul_right_mod]
theorem u8_mod (x : Nat) : UInt8.ofNat (x % 256) = UInt8.ofNat x := by
  apply UInt8.toNat_inj.1; simp
theorem bytes_step {x i k : Nat} (hk : k < 8) (h : 8 * i + k < (le32 x).length) : UInt8.ofNat (wd x i / 2 ^ (8 * k)) = (le32 x)[8 * i + k] := by
  have e : (2 : Nat) ^ (8 * k) = 256 ^ k := by rw [Nat.pow_mul]
  have h2 : (le32 x)[8 * i + k] = UInt8.ofNat (x / 256 ^ (8 * i + k) % 256) := dg_get 32 x (8 * i + k) h
  rw [h2, e, ← u8_mod, wd_byte x i k hk]
/-- What was read of a word's bytes, the highest first, so far: m of them. -/
def rdw (x i m : Nat) : Nat := wd x i / 256 ^ (8 - m)
theorem rdw_zero (x i : Nat) : rdw x i 0 = 0 := by
  unfold rdw
  exact Nat.div_eq_of_lt (wd_lt x i)
theorem rdw_all (x i : Nat) : rdw x i 8 = wd x i := by simp [rdw]
theorem rdw_step {l : List UInt8} {i m : Nat} (hm : m < 8) (h : 8 * i + (7 - m) < l.length) : rdw (leN l) i (m + 1) = rdw (leN l) i m * 256 + (l[8 * i + (7 - m)]).toNat := by
  unfold rdw
  have e : 8 - m = (7 - m) + 1 := by omega
  have e2 : 8 - (m + 1) = 7 - m := by omega
  rw [e, e2, ← leN_digit l _ h, ← wd_byte _ i (7 - m) (by omega), Nat.pow_succ, ← Nat.div_div_eq_div_mul]
  omega
theorem rdw_lt (x i : Nat) {m : Nat} (hm : m < 8) : rdw x i m < 72057594037927936 := by
  unfold rdw
  have h1 : 256 ^ 1 ≤ 256 ^ (8 - m) := Nat.pow_le_pow_right (by decide) (by omega)
  have h2 := wd_lt x i
  have h3 : wd x i / 256 ^ (8 - m) ≤ wd x i / 256 ^ 1 := Nat.div_le_div_left h1 (by decide)
  simp only [w64] at h2
  omega
theorem or_lt {a b : Nat} (hb : b < 256) (ha : a < 72057594037927936) : a * 256 + b < w64 := by unfold w64; omega
theorem or_byte {a b : Nat} (hb : b < 256) (ha : a < 72057594037927936) : iop .or .u64 ((a * 2 ^ 8 % w64 : Nat) : Int) (b : Int) = some (wv (a * 256 + b)) := by
  have hlt : a * 2 ^ 8 < w64 := by simp only [w64]; omega
  rw [Nat.mod_eq_of_lt hlt]
  have hc : a * 2 ^ 8 = 2 ^ 8 * a := Nat.mul_comm _ _
  have e : (BitVec.ofInt 64 ((a * 2 ^ 8 : Nat) : Int) ||| BitVec.ofInt 64 (b : Int)).toNat = a * 256 + b := by
    rw [BitVec.toNat_or, BitVec.ofInt_natCast, BitVec.ofInt_natCast, BitVec.toNat_ofNat, BitVec.toNat_ofNat, Nat.mod_eq_of_lt (show a * 2 ^ 8 < 2 ^ 64 from hlt), Nat.mod_eq_of_lt (Nat.lt_trans hb (by decide) : b < 2 ^ 64),
      hc, ← Nat.two_pow_add_eq_or_of_lt (show b < 2 ^ 8 from hb), ← hc]
  show some (Value.int .u64 (IntKind.u64.wrap (BitVec.ofInt 64 ((a * 2 ^ 8 : Nat) : Int) ||| BitVec.ofInt 64 (b : Int)).toNat)) = _
  rw [e, wrapU, Nat.mod_eq_of_lt (or_lt hb ha)]
  rfl
/-! ## The value of a row of words -/
def vN : List Nat → Nat
  | [] => 0
  | a :: r => a + w64 * vN r
theorem vN_set : ∀ (l : List Nat) (i : Nat) (a v : Nat), l[i]? = some a → vN (l.set i v) + a * w64 ^ i = vN l + v * w64 ^ i
  | [], i, a, v, h => by simp at h
  | b :: r, 0, a, v, h => by
    simp at h; subst h
    simp only [List.set_cons_zero, vN, Nat.pow_zero, Nat.mul_one]; omega
  | b :: r, i + 1, a, v, h => by
    have ih := vN_set r i a v (by simpa using h)
    simp only [List.set_cons_succ, vN, Nat.pow_succ']
    have e1 : a * (w64 * w64 ^ i) = w64 * (a * w64 ^ i) := by rw [Nat.mul_left_comm]
    have e2 : v * (w64 * w64 ^ i) = w64 * (v * w64 ^ i) := by rw [Nat.mul_left_comm]
    have e3 : w64 * (vN (r.set i v) + a * w64 ^ i) = w64 * (vN r + v * w64 ^ i) := by rw [ih]
    rw [Nat.mul_add, Nat.mul_add] at e3
    rw [e1, e2]; omega
theorem vN_app : ∀ (l m : List Nat), vN (l ++ m) = vN l + w64 ^ l.length * vN m
  | [], m => by simp [vN]
  | a :: l, m => by
    simp only [List.cons_append, vN, vN_app l m, List.length_cons, Nat.pow_succ', Nat.mul_add, Nat.mul_assoc]
    omega
theorem vN_take_succ (l : List Nat) (i a : Nat) (h : l[i]? = some a) : vN (l.take (i + 1)) = vN (l.take i) + a * w64 ^ i := by
  have hlt := (List.getElem?_eq_some_iff.1 h).1
  rw [List.take_add_one, h, vN_app, List.length_take, Nat.min_eq_left (by omega)]
  simp [vN, Nat.mul_comm]
theorem vN_lt : ∀ l : List Nat, (∀ a ∈ l, a < w64) → vN l < w64 ^ l.length
  | [], _ => by simp [vN]
  | a :: r, h => by
    have h1 := vN_lt r fun b hb => h b (List.mem_cons_of_mem _ hb)
    have h2 := h a (List.mem_cons_self)
    simp only [vN, List.length_cons, Nat.pow_succ']
    have h3 : w64 * (vN r + 1) ≤ w64 * w64 ^ r.length := Nat.mul_le_mul_left _ h1
    rw [Nat.mul_add] at h3
    omega
/-- One step of a product's row. -/
theorem row_step {m n s c lo hi l1 l2 c1 c2 : Nat} (hm : m < w64) (hn : n < w64) (hs : s < w64) (hc : c < w64) (e0 : hi = m * n / w64) (e1 : lo = m * n % w64) (e2 : l1 = acw lo s 0) (e3 : c1 = acc lo s 0) (e4 : l2 = acw l1 c 0) (e5 : c2 = acc l1 c 0) :
    l2 + w64 * (((hi + c1) % w64 + c2) % w64) = m * n + s + c ∧ l2 < w64 ∧ ((hi + c1) % w64 + c2) % w64 < w64 := by
  have h1 := (ac_eq lo s 0).1
  have h2 := (ac_eq l1 c 0).1
  have h3 := acw_lt l1 c 0
  rw [← e2, ← e3] at h1
  rw [← e4, ← e5] at h2
  rw [← e4] at h3
  have h5 : w64 * hi + lo = m * n := by rw [e0, e1]; exact Nat.div_add_mod _ _
  have h6 : m * n ≤ (w64 - 1) * (w64 - 1) := Nat.mul_le_mul (by omega) (by omega)
  generalize m * n = q at *
  clear e0 e1 e2 e3 e4 e5
  simp only [w64] at *
  omega
end Go.Proofs.Ytefphcpaakhfbaa

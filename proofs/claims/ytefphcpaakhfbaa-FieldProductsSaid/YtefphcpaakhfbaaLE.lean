/-
  The reference's digits of 16 bits, and what its product's steps come to.
-/
import Derived.Test.YtefphcpaakhfbaaLG
namespace Go.Proofs.Ytefphcpaakhfbaa
open Go Go.Sl Go.RowKit Go.Fp

def w16 : Nat := 65536
def IV (l : List Nat) : List Value := l.map fun n : Nat => Value.int .i64 (n : Int)
theorem IV_len (l : List Nat) : (IV l).length = l.length := by simp [IV]
theorem nth_IV {l : List Nat} {i v : Nat} (h : l[i]? = some v) : nth (IV l) (0 + i) = some (.int .i64 (v : Int)) := by
  rw [nth_eq, Nat.zero_add]; simp [IV, h]
theorem setL_IV {l : List Nat} {i : Nat} (h : i < l.length) (v : Nat) : setL (IV l) (0 + i) (.int .i64 (v : Int)) = some (IV (l.set i v)) := by
  rw [Nat.zero_add, setL_of (by rw [IV_len]; exact h)]; simp [IV, List.map_set]
theorem all_IV (l : List Nat) : (IV l).all Value.oneCell' = true := by
  simp only [IV, List.all_map]
  exact List.all_eq_true.2 fun x _ => rfl
def vD : List Nat → Nat
  | [] => 0
  | a :: r => a + w16 * vD r
theorem vD_set : ∀ (l : List Nat) (i : Nat) (a v : Nat), l[i]? = some a → vD (l.set i v) + a * w16 ^ i = vD l + v * w16 ^ i
  | [], i, a, v, h => by simp at h
  | b :: r, 0, a, v, h => by
    simp at h; subst h
    simp only [List.set_cons_zero, vD, Nat.pow_zero, Nat.mul_one]; omega
  | b :: r, i + 1, a, v, h => by
    have ih := vD_set r i a v (by simpa using h)
    simp only [List.set_cons_succ, vD, Nat.pow_succ']
    have e1 : a * (w16 * w16 ^ i) = w16 * (a * w16 ^ i) := by rw [Nat.mul_left_comm]
    have e2 : v * (w16 * w16 ^ i) = w16 * (v * w16 ^ i) := by rw [Nat.mul_left_comm]
    have e3 : w16 * (vD (r.set i v) + a * w16 ^ i) = w16 * (vD r + v * w16 ^ i) := by rw [ih]
    rw [Nat.mul_add, Nat.mul_add] at e3
    rw [e1, e2]; omega
theorem vD_app : ∀ (l m : List Nat), vD (l ++ m) = vD l + w16 ^ l.length * vD m
  | [], m => by simp [vD]
  | a :: l, m => by
    simp only [List.cons_append, vD, vD_app l m, List.length_cons, Nat.pow_succ', Nat.mul_add, Nat.mul_assoc]
    omega
theorem vD_take_succ (l : List Nat) (i a : Nat) (h : l[i]? = some a) : vD (l.take (i + 1)) = vD (l.take i) + a * w16 ^ i := by
  have hlt := (List.getElem?_eq_some_iff.1 h).1
  rw [List.take_add_one, h, vD_app, List.length_take, Nat.min_eq_left (by omega)]
  simp [vD, Nat.mul_comm]
theorem vD_zero : ∀ n, vD (List.replicate n 0) = 0
  | 0 => rfl
  | n + 1 => by simp [List.replicate_succ, vD, vD_zero n]
theorem vD_lt : ∀ l : List Nat, (∀ a ∈ l, a < w16) → vD l < w16 ^ l.length
  | [], _ => by simp [vD]
  | a :: r, h => by
    have h1 := vD_lt r fun b hb => h b (List.mem_cons_of_mem _ hb)
    have h2 := h a (List.mem_cons_self)
    simp only [vD, List.length_cons, Nat.pow_succ']
    have h3 : w16 * (vD r + 1) ≤ w16 * w16 ^ r.length := Nat.mul_le_mul_left _ h1
    rw [Nat.mul_add] at h3
    omega
theorem vD_le (b : Nat) : ∀ l : List Nat, (∀ a ∈ l, a ≤ b) → vD l * 65535 + b ≤ b * w16 ^ l.length
  | [], _ => by simp [vD]
  | a :: r, h => by
    have h1 := vD_le b r fun c hb => h c (List.mem_cons_of_mem _ hb)
    have h2 := h a (List.mem_cons_self)
    simp only [vD, List.length_cons, Nat.pow_succ']
    have h3 : w16 * (vD r * 65535 + b) ≤ w16 * (b * w16 ^ r.length) := Nat.mul_le_mul_left _ h1
    rw [Nat.mul_left_comm b w16]
    generalize b * w16 ^ r.length = z at *
    generalize vD r = y at *
    clear h h1
    unfold w16 at *
    omega
theorem vD_le' {b : Nat} {l : List Nat} (h : ∀ a ∈ l, a ≤ b) : vD l ≤ b * w16 ^ l.length := by
  have := vD_le b l h
  omega
theorem w16_16 : w16 ^ 16 = w256 := by decide
/-- The digits of a number. -/
def dD : Nat → Nat → List Nat
  | 0, _ => []
  | n + 1, x => x % w16 :: dD n (x / w16)
theorem dD_len : ∀ n x, (dD n x).length = n
  | 0, _ => rfl
  | n + 1, x => by simp [dD, dD_len n]
theorem vD_dD : ∀ n x, vD (dD n x) = x % w16 ^ n
  | 0, x => by simp [dD, vD, Nat.mod_one]
  | n + 1, x => by
    simp only [dD, vD, vD_dD n]
    rw [Nat.pow_succ', Nat.mod_mul]
theorem dD_get : ∀ (n x i : Nat) (h : i < (dD n x).length), (dD n x)[i] = x / w16 ^ i % w16
  | 0, x, i, h => by simp [dD] at h
  | n + 1, x, 0, h => by simp [dD]
  | n + 1, x, i + 1, h => by
    have ih := dD_get n (x / w16) i (by simpa [dD] using h)
    simp only [dD, List.getElem_cons_succ, ih]
    rw [Nat.pow_succ', ← Nat.div_div_eq_div_mul]
theorem dD_lt (n x : Nat) : ∀ a ∈ dD n x, a < w16 := fun a ha => by
  obtain ⟨i, hi, rfl⟩ := List.getElem_of_mem ha
  rw [dD_get]; exact Nat.mod_lt _ (by decide)
theorem dig_pair {l : List UInt8} {i : Nat} (h : i < 16) (hl : l.length = 32) (h2 : i < (dD 16 (leN l)).length) : (l[2 * i]'(by omega)).toNat + 256 * (l[2 * i + 1]'(by omega)).toNat = (dD 16 (leN l))[i] := by
  rw [dD_get, ← leN_digit l (2 * i) (by omega), ← leN_digit l (2 * i + 1) (by omega)]
  have e : w16 ^ i = 256 ^ (2 * i) := by rw [Nat.pow_mul]; rfl
  rw [e, Nat.pow_succ, ← Nat.div_div_eq_div_mul]
  simp only [w16]
  omega
theorem mem_le {l : List Nat} {i v b : Nat} (h : ∀ a ∈ l, a ≤ b) (hv : l[i]? = some v) : v ≤ b := h v (List.mem_of_getElem? hv)
theorem set_le {l : List Nat} {i v b : Nat} (h : ∀ a ∈ l, a ≤ b) (hv : v ≤ b) : ∀ a ∈ l.set i v, a ≤ b := fun a ha => by
  rcases List.mem_or_eq_of_mem_set ha with h1 | h1
  · exact h a h1
  · exact h1 ▸ hv
/-! ## The product's digits -/
structure WO (xs ys : List Nat) (i m k : Nat) (ws : List Nat) : Prop where
  hi : i ≤ 16
  hk : k ≤ 16
  hl : ws.length = 32
  hv : vD ws = vD (xs.take i) * vD ys + m * vD (ys.take k) * w16 ^ i
  hb : ∀ a ∈ ws, a ≤ (16 * i + k) * 4294967296
theorem WO.start (xs ys : List Nat) (m : Nat) : WO xs ys 0 m 0 (List.replicate 32 0) := by
  refine ⟨by decide, by decide, by simp, by rw [vD_zero]; simp [vD], fun a ha => ?_⟩
  rw [List.mem_replicate] at ha
  omega
theorem WO.turn {xs ys ws : List Nat} {i m m' : Nat} (h : WO xs ys i m 0 ws) : WO xs ys i m' 0 ws := ⟨h.hi, h.hk, h.hl, by rw [h.hv]; simp [vD], h.hb⟩
theorem wide_law {V V' s m n T Y A C : Nat} (e1 : V' + s * (A * C) = V + (s + m * n) * (A * C)) (e3 : V = T + m * Y * A) : V' = T + m * (Y + n * C) * A := by
  have e5 : (s + m * n) * (A * C) = s * (A * C) + m * n * (A * C) := Nat.add_mul _ _ _
  have e6 : m * (Y + n * C) * A = m * Y * A + m * n * (A * C) := by grind
  rw [e6]
  omega
theorem WO.step {xs ys ws : List Nat} {i m k n s : Nat} (h : WO xs ys i m k ws) (hi : i < 16) (hk : k < 16) (hn : ys[k]? = some n) (hs : ws[i + k]? = some s) (hm : m < w16) (hn2 : n < w16) : WO xs ys i m (k + 1) (ws.set (i + k) (s + m * n)) ∧ s + m * n < 9223372036854775808 ∧ m * n < 9223372036854775808 := by
  have b1 : m * n ≤ 65535 * 65535 := Nat.mul_le_mul (by simp only [w16] at hm; omega) (by simp only [w16] at hn2; omega)
  have b2 := mem_le h.hb hs
  refine ⟨⟨h.hi, hk, by simpa using h.hl, ?_, ?_⟩, by omega, by omega⟩
  · have e1 := vD_set ws (i + k) s (s + m * n) hs
    rw [vD_take_succ ys k n hn]
    rw [Nat.pow_add] at e1
    exact wide_law e1 h.hv
  · refine set_le (fun a ha => Nat.le_trans (h.hb a ha) ?_) ?_ <;> omega
theorem WO.row {xs ys ws : List Nat} {i m : Nat} (h : WO xs ys i m 16 ws) (hi : i < 16) (hm : xs[i]? = some m) (hy : ys.length = 16) : WO xs ys (i + 1) 0 0 ws := by
  refine ⟨hi, by decide, h.hl, ?_, fun a ha => Nat.le_trans (h.hb a ha) (by omega)⟩
  have e0 : ys.take 16 = ys := List.take_of_length_le (by omega)
  rw [h.hv, vD_take_succ xs i m hm, e0, Nat.add_mul]
  have e4 : m * w16 ^ i * vD ys = m * vD ys * w16 ^ i := by rw [Nat.mul_assoc, Nat.mul_assoc, Nat.mul_comm (w16 ^ i)]
  rw [e4]
  simp [vD]
/-! ## The upper half comes in -/
structure LO (ws : List Nat) (i : Nat) (ls : List Nat) : Prop where
  hi : i ≤ 16
  hl : ls.length = 17
  hv : vD ls = vD (ws.take i) + 38 * vD ((ws.drop 16).take i)
  hz : ∀ j, i ≤ j → j < 17 → ls[j]? = some 0
  hb : ∀ a ∈ ls, a ≤ 70368744177664
theorem LO.start (ws : List Nat) : LO ws 0 (List.replicate 17 0) := by
  refine ⟨by decide, by simp, by rw [vD_zero]; simp [vD], fun j _ h => ?_, fun a ha => ?_⟩
  · rw [List.getElem?_replicate, if_pos h]
  · rw [List.mem_replicate] at ha; omega
theorem LO.step {ws ls : List Nat} {i a c : Nat} (h : LO ws i ls) (hi : i < 16) (ha : ws[i]? = some a) (hc : ws[16 + i]? = some c) (h1 : a ≤ 1099511627776) (h2 : c ≤ 1099511627776) : LO ws (i + 1) (ls.set i (a + 38 * c)) := by
  have h0 := h.hz i (Nat.le_refl _) (by omega)
  refine ⟨hi, by simpa using h.hl, ?_, fun j hj hl => ?_, set_le h.hb (by omega)⟩
  · have e1 := vD_set ls i 0 (a + 38 * c) h0
    have hc' : (ws.drop 16)[i]? = some c := by rw [List.getElem?_drop]; exact hc
    rw [vD_take_succ ws i a ha, vD_take_succ _ i c hc']
    rw [h.hv] at e1
    have e2 : (a + 38 * c) * w16 ^ i = a * w16 ^ i + 38 * (c * w16 ^ i) := by rw [Nat.add_mul, Nat.mul_assoc]
    omega
  · rw [List.getElem?_set_ne (by omega)]
    exact h.hz j (by omega) hl
/-! ## Carrying -/
structure CO (V i : Nat) (ls : List Nat) : Prop where
  hi : i ≤ 16
  hl : ls.length = 17
  hv : vD ls = V
  hs : ∀ j a, j < i → ls[j]? = some a → a < w16
  hc : ∀ a, ls[i]? = some a → a ≤ 18014398509481984
  hb : ∀ j a, i < j → ls[j]? = some a → a ≤ 9007199254740992
theorem CO.step {V i a c : Nat} {ls : List Nat} (h : CO V i ls) (hi : i < 16) (ha : ls[i]? = some a) (hc : ls[i + 1]? = some c) : CO V (i + 1) ((ls.set (i + 1) (c + a / 65536)).set i (a % 65536)) := by
  have ba := h.hc a ha
  have bc := h.hb (i + 1) c (by omega) hc
  have ha' : (ls.set (i + 1) (c + a / 65536))[i]? = some a := by rw [List.getElem?_set_ne (by omega)]; exact ha
  refine ⟨hi, by simpa using h.hl, ?_, fun j x hj hx => ?_, fun x hx => ?_, fun j x hj hx => ?_⟩
  · have e1 := vD_set ls (i + 1) c (c + a / 65536) hc
    have e2 := vD_set _ i a (a % 65536) ha'
    rw [h.hv] at e1
    rw [Nat.pow_succ', Nat.add_mul] at e1
    have e3 : a / 65536 * (w16 * w16 ^ i) + a % 65536 * w16 ^ i = a * w16 ^ i := by
      rw [← Nat.mul_assoc, ← Nat.add_mul]
      congr 1
      simp only [w16]; omega
    omega
  · by_cases he : j = i
    · subst he
      rw [List.getElem?_set_self (by simp; have := h.hl; omega)] at hx
      injection hx with hx
      subst hx
      exact Nat.mod_lt _ (by decide)
    · rw [List.getElem?_set_ne (by omega), List.getElem?_set_ne (by omega)] at hx
      exact h.hs j x (by omega) hx
  · rw [List.getElem?_set_ne (by omega), List.getElem?_set_self (by have := h.hl; omega)] at hx
    injection hx with hx
    omega
  · rw [List.getElem?_set_ne (by omega), List.getElem?_set_ne (by omega)] at hx
    exact h.hb j x (by omega) hx
theorem CO.start {ls : List Nat} (hl : ls.length = 17) (hb : ∀ a ∈ ls, a ≤ 9007199254740992) : CO (vD ls) 0 ls :=
  ⟨by decide, hl, rfl, fun j a hj => by omega, fun a ha => Nat.le_trans (mem_le hb ha) (by decide), fun j a _ ha => mem_le hb ha⟩
/-- Taken round once. -/
def fR (V : Nat) : Nat := V % w256 + 38 * (V / w256)
def itR : Nat → Nat → Nat
  | 0, V => V
  | n + 1, V => fR (itR n V)
theorem fR_mod (V : Nat) : fR V % P = V % P := by
  have h := Nat.div_add_mod V w256
  have e : V = fR V + P * (2 * (V / w256)) := by
    unfold fR
    rw [P_w, Nat.add_mul] at h
    have : 2 * P * (V / w256) = P * (2 * (V / w256)) := by rw [Nat.mul_comm 2 P, Nat.mul_assoc]
    rw [P_w] at *
    omega
  conv => rhs; rw [e]
  rw [Nat.add_mul_mod_self_left]
theorem itR_mod : ∀ n V, itR n V % P = V % P
  | 0, _ => rfl
  | n + 1, V => by rw [itR, fR_mod, itR_mod n]
theorem itR_le {V : Nat} (h : V ≤ 70368744177664 * w256) : ∀ n, itR n V ≤ 70368744177664 * w256
  | 0 => h
  | n + 1 => by
    have ih := itR_le h n
    have h1 : itR n V / w256 ≤ 70368744177664 := Nat.div_le_of_le_mul (by rw [Nat.mul_comm]; exact ih)
    have h2 := Nat.mod_lt (itR n V) (show w256 > 0 by decide)
    show fR (itR n V) ≤ _
    unfold fR
    have h3 : (38 * 70368744177664 : Nat) ≤ w256 := by decide
    omega
theorem itR_2 {V : Nat} (h : V ≤ 70368744177664 * w256) : itR 2 V < w256 := by
  have h1 : V / w256 ≤ 70368744177664 := Nat.div_le_of_le_mul (by rw [Nat.mul_comm]; exact h)
  have h2 := Nat.mod_lt V (show w256 > 0 by decide)
  have e1 : itR 1 V = V % w256 + 38 * (V / w256) := rfl
  have h3 : (38 * 70368744177664 + 38 : Nat) < w256 := by decide
  show fR (itR 1 V) < w256
  unfold fR
  rw [e1]
  generalize V % w256 = a at *
  generalize V / w256 = c at *
  rcases Nat.lt_or_ge (a + 38 * c) w256 with h4 | h4
  · rw [Nat.div_eq_of_lt h4, Nat.mod_eq_of_lt h4]; omega
  · have h5 : a + 38 * c - w256 < w256 := by omega
    have e2 : (a + 38 * c) / w256 = 1 := by
      rw [Nat.div_eq_of_lt_le]
      · omega
      · omega
    have e3 : (a + 38 * c) % w256 = a + 38 * c - w256 := by
      rw [Nat.mod_eq_sub_mod h4, Nat.mod_eq_of_lt h5]
    rw [e2, e3]
    omega
structure PO (n V : Nat) (ls : List Nat) : Prop where
  hn : n ≤ 3
  hV : V ≤ 70368744177664 * w256
  hl : ls.length = 17
  hv : vD ls = itR n V
  hb : ∀ a ∈ ls, a ≤ 9007199254740992
  hd : n = 3 → (∀ j a, j < 16 → ls[j]? = some a → a < w16) ∧ ls[16]? = some 0
theorem PO.start {ws ls : List Nat} (h : LO ws 16 ls) : PO 0 (vD ls) ls := by
  have h16 := h.hz 16 (Nat.le_refl _) (by decide)
  refine ⟨by decide, ?_, h.hl, rfl, fun a ha => Nat.le_trans (h.hb a ha) (by decide), fun e => by cases e⟩
  have e1 := vD_take_succ ls 16 0 h16
  rw [List.take_of_length_le (by have := h.hl; omega), Nat.zero_mul, Nat.add_zero] at e1
  rw [e1]
  have h2 := vD_le' (b := 70368744177664) (l := ls.take 16) fun a ha => h.hb a (List.mem_of_mem_take ha)
  have h3 : (ls.take 16).length = 16 := by simp [h.hl]
  rwa [h3, w16_16] at h2
theorem PO.next {n V a t : Nat} {ls ls' : List Nat} (h : PO n V ls) (hn : n < 3) (hc : CO (vD ls) 16 ls') (ha : ls'[0]? = some a) (ht : ls'[16]? = some t) : PO (n + 1) V ((ls'.set 0 (a + 38 * t)).set 16 0) ∧ t ≤ 70368744177664 ∧ a < w16 := by
  have hl := hc.hl
  have e1 := vD_take_succ ls' 16 t ht
  rw [List.take_of_length_le (by omega), w16_16] at e1
  have h1 : vD (ls'.take 16) < w256 := by
    have h2 := vD_lt (ls'.take 16) fun x hx => by
      obtain ⟨j, hj, rfl⟩ := List.getElem_of_mem hx
      have hj16 : j < 16 := by simp at hj; omega
      rw [List.getElem_take]
      exact hc.hs j _ hj16 (List.getElem?_eq_getElem (by omega))
    have h3 : (ls'.take 16).length = 16 := by simp [hl]
    rwa [h3, w16_16] at h2
  rw [hc.hv] at e1
  have e2 : vD ls / w256 = t := by
    rw [e1, Nat.add_mul_div_right _ _ (by decide), Nat.div_eq_of_lt h1]; omega
  have e3 : vD ls % w256 = vD (ls'.take 16) := by
    rw [e1, Nat.add_mul_mod_self_right, Nat.mod_eq_of_lt h1]
  have bt : t ≤ 70368744177664 := by
    rw [← e2, h.hv]
    exact Nat.div_le_of_le_mul (by rw [Nat.mul_comm]; exact itR_le h.hV n)
  have ba := hc.hs 0 a (by decide) ha
  have ba' : a < 65536 := ba
  have hlen : ((ls'.set 0 (a + 38 * t)).set 16 0).length = 17 := by simpa using hl
  refine ⟨⟨hn, h.hV, hlen, ?_, ?_, fun e => ⟨fun j x hj hx => ?_, ?_⟩⟩, bt, ba⟩
  · have g1 := vD_set ls' 0 a (a + 38 * t) ha
    have g2 := vD_set (ls'.set 0 (a + 38 * t)) 16 t 0 (by rw [List.getElem?_set_ne (by decide)]; exact ht)
    show _ = fR (itR n V)
    unfold fR
    rw [← h.hv, e2, e3]
    rw [hc.hv, Nat.pow_zero] at g1
    rw [w16_16] at g2
    omega
  · refine set_le (set_le ?_ (by omega)) (by omega)
    intro x hx
    obtain ⟨j, hj, rfl⟩ := List.getElem_of_mem hx
    by_cases hj16 : j < 16
    · have := hc.hs j _ hj16 (List.getElem?_eq_getElem hj)
      simp only [w16] at this
      omega
    · have : j = 16 := by omega
      subst this
      rw [List.getElem?_eq_getElem hj] at ht
      injection ht with ht
      omega
  · have hn2 : n = 2 := by omega
    subst hn2
    have ht0 : t = 0 := by rw [← e2, h.hv]; exact Nat.div_eq_of_lt (itR_2 h.hV)
    subst ht0
    rw [List.getElem?_set_ne (by omega)] at hx
    by_cases hj0 : j = 0
    · subst hj0
      rw [List.getElem?_set_self (by omega)] at hx
      injection hx with hx
      subst hx
      exact ba
    · rw [List.getElem?_set_ne (by omega)] at hx
      exact hc.hs j x hj hx
  · rw [List.getElem?_set_self (by simp; omega)]
/-! ## Laid down -/
theorem out_step {ls : List Nat} {os : List UInt8} {i a : Nat} (ho : leN os = vD (ls.take i)) (hl : os.length = 2 * i) (ha : ls[i]? = some a) (h : a < w16) : leN (os ++ [UInt8.ofNat (a % 256), UInt8.ofNat (a / 256)]) = vD (ls.take (i + 1)) := by
  have e : a / 256 = a / 256 % 256 := by simp only [w16] at h; omega
  rw [leN_app, hl, vD_take_succ ls i a ha, ho, e]
  simp only [leN, u8_val]
  have e2 : 256 ^ (2 * i) = w16 ^ i := by rw [Nat.pow_mul]; rfl
  rw [e2, Nat.mul_comm (w16 ^ i)]
  congr 2
  omega
theorem prod_end {x y : Nat} {ws ls os : List Nat} {bs : List UInt8} (hx : x < w256) (hy : y < w256) (h1 : WO (dD 16 x) (dD 16 y) 16 0 0 ws) (h2 : LO ws 16 ls) (h3 : PO 3 (vD ls) os) (h4 : leN bs = vD (os.take 16)) : leN bs < w256 ∧ leN bs % P = x * y % P := by
  obtain ⟨d1, d2⟩ := h3.hd rfl
  have e1 := vD_take_succ os 16 0 d2
  rw [List.take_of_length_le (by have := h3.hl; omega), Nat.zero_mul, Nat.add_zero] at e1
  rw [h4, ← e1, h3.hv]
  constructor
  · have h5 := itR_2 h3.hV
    show fR (itR 2 (vD ls)) < w256
    unfold fR
    rw [Nat.div_eq_of_lt h5, Nat.mod_eq_of_lt h5]; omega
  · rw [itR_mod, h2.hv]
    have hl := h1.hl
    have e2 : vD ws = vD (ws.take 16) + w256 * vD (ws.drop 16) := by
      have h := vD_app (ws.take 16) (ws.drop 16)
      rw [List.take_append_drop] at h
      rw [h, List.length_take, Nat.min_eq_left (by omega), w16_16]
    have e3 : vD ws = x * y := by
      rw [h1.hv, List.take_of_length_le (by rw [dD_len]; decide), vD_dD, vD_dD, w16_16, Nat.mod_eq_of_lt hx, Nat.mod_eq_of_lt hy]
      simp [vD]
    rw [List.take_of_length_le (by simp [hl] : (ws.drop 16).length ≤ 16), ← e3, e2]
    have e4 : w256 * vD (ws.drop 16) = 38 * vD (ws.drop 16) + P * (2 * vD (ws.drop 16)) := by
      rw [P_w, Nat.add_mul]
      have : 2 * P * vD (ws.drop 16) = P * (2 * vD (ws.drop 16)) := by rw [Nat.mul_comm 2 P, Nat.mul_assoc]
      omega
    rw [e4, ← Nat.add_assoc, Nat.add_mul_mod_self_left]
end Go.Proofs.Ytefphcpaakhfbaa

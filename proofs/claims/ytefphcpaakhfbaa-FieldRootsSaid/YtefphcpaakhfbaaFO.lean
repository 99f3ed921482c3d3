/-
  What the rounds of a product of words come to.
-/
import Derived.Test.YtefphcpaakhfbaaF4
namespace Go.Proofs.Ytefphcpaakhfbaa
open Go Go.Sl Go.RowKit Go.Fp

theorem mem_set {l : List Nat} {i v : Nat} (h : ∀ a ∈ l, a < w64) (hv : v < w64) : ∀ a ∈ l.set i v, a < w64 := fun a ha => by
  rcases List.mem_or_eq_of_mem_set ha with h1 | h1
  · exact h a h1
  · exact h1 ▸ hv
theorem mem_get {l : List Nat} {i v : Nat} (h : ∀ a ∈ l, a < w64) (hv : l[i]? = some v) : v < w64 := h v (List.mem_of_getElem? hv)
structure MO (xs ys : List Nat) (i : Nat) (ws : List Nat) : Prop where
  hi : i ≤ xs.length
  hl : ws.length = xs.length + ys.length
  hw : ∀ a ∈ ws, a < w64
  hv : vN ws = vN (xs.take i) * vN ys
  hz : ∀ j, i + ys.length ≤ j → j < ws.length → ws[j]? = some 0
structure MN (xs ys : List Nat) (i m k c : Nat) (ws : List Nat) : Prop where
  hi : i < xs.length
  hk : k ≤ ys.length
  hl : ws.length = xs.length + ys.length
  hw : ∀ a ∈ ws, a < w64
  hc : c < w64
  hv : vN ws + c * w64 ^ (i + k) = vN (xs.take i) * vN ys + m * vN (ys.take k) * w64 ^ i
  hz : ∀ j, i + ys.length ≤ j → j < ws.length → ws[j]? = some 0
theorem vN_zero : ∀ n, vN (List.replicate n 0) = 0
  | 0 => rfl
  | n + 1 => by simp [List.replicate_succ, vN, vN_zero n]
theorem MO.start (xs ys : List Nat) : MO xs ys 0 (List.replicate (xs.length + ys.length) 0) := by
  refine ⟨Nat.zero_le _, by simp, fun a ha => ?_, ?_, fun j _ h2 => ?_⟩
  · rw [List.mem_replicate] at ha
    rw [ha.2]; decide
  · rw [vN_zero]; simp [vN]
  · simp at h2
    simp [h2]
theorem MO.row {xs ys : List Nat} {i m : Nat} {ws : List Nat} (h : MO xs ys i ws) (hi : xs[i]? = some m) : MN xs ys i m 0 0 ws :=
  ⟨(List.getElem?_eq_some_iff.1 hi).1, Nat.zero_le _, h.hl, h.hw, by decide, by rw [h.hv]; simp [vN], h.hz⟩
theorem step_law {V V' c c' s l2 T m n Y w A B : Nat} (e1 : V' + s * (A * B) = V + l2 * (A * B)) (e2 : l2 + w * c' = m * n + s + c) (e3 : V + c * (A * B) = T + m * Y * A) :
    V' + c' * (w * (A * B)) = T + m * (Y + n * B) * A := by
  have e4 : l2 * (A * B) + w * c' * (A * B) = m * n * (A * B) + s * (A * B) + c * (A * B) := by rw [← Nat.add_mul, e2, Nat.add_mul, Nat.add_mul]
  have e5 : c' * (w * (A * B)) = w * c' * (A * B) := by grind
  have e6 : m * (Y + n * B) * A = m * Y * A + m * n * (A * B) := by grind
  rw [e5, e6]
  omega
theorem MN.step {xs ys : List Nat} {i m k c n s c' l2 : Nat} {ws : List Nat} (h : MN xs ys i m k c ws) (hk : ys[k]? = some n) (hs : ws[i + k]? = some s) (e : l2 + w64 * c' = m * n + s + c) (h1 : l2 < w64) (h2 : c' < w64) :
    MN xs ys i m (k + 1) c' (ws.set (i + k) l2) := by
  have hkl := (List.getElem?_eq_some_iff.1 hk).1
  refine ⟨h.hi, hkl, by simpa using h.hl, mem_set h.hw h1, h2, ?_, fun j hj hl => ?_⟩
  · have e1 := vN_set ws (i + k) s l2 hs
    have e3 := h.hv
    rw [vN_take_succ ys k n hk]
    have ep : i + (k + 1) = (i + k) + 1 := rfl
    rw [ep, Nat.pow_succ', Nat.pow_add]
    rw [Nat.pow_add] at e1 e3
    exact step_law e1 e e3
  · rw [List.getElem?_set_ne (by omega)]
    exact h.hz j hj (by simpa using hl)
theorem MN.done {xs ys : List Nat} {i m c : Nat} {ws : List Nat} (h : MN xs ys i m ys.length c ws) (hm : xs[i]? = some m) : MO xs ys (i + 1) (ws.set (i + ys.length) c) := by
  have hz := h.hz (i + ys.length) (Nat.le_refl _) (by have := h.hi; have := h.hl; omega)
  refine ⟨h.hi, by simpa using h.hl, mem_set h.hw h.hc, ?_, fun j hj hl => ?_⟩
  · have e1 := vN_set ws (i + ys.length) 0 c hz
    have e3 := h.hv
    rw [vN_take_succ xs i m hm, Nat.add_mul]
    rw [List.take_of_length_le (Nat.le_refl _)] at e3
    have e4 : m * w64 ^ i * vN ys = m * vN ys * w64 ^ i := by rw [Nat.mul_assoc, Nat.mul_assoc, Nat.mul_comm (w64 ^ i)]
    rw [e4]
    omega
  · rw [List.getElem?_set_ne (by omega)]
    exact h.hz j (by omega) (by simpa using hl)
theorem MN.get {xs ys : List Nat} {i m k c : Nat} {ws : List Nat} (h : MN xs ys i m k c ws) (hk : k < ys.length) : ∃ s, ws[i + k]? = some s ∧ s < w64 := by
  have hlt : i + k < ws.length := by have := h.hi; have := h.hl; omega
  exact ⟨ws[i + k], List.getElem?_eq_getElem hlt, h.hw _ (List.getElem_mem hlt)⟩

/-- The upper half comes in 38 times. -/
structure MH (ws : List Nat) (j c : Nat) (os : List Nat) : Prop where
  hj : j ≤ 4
  hl : os.length = 4
  hw : ∀ a ∈ os, a < w64
  hc : c < w64
  hv : vN os + c * w64 ^ j = vN (ws.take 4) + 38 * vN ((ws.drop 4).take j)
theorem MH.start {ws : List Nat} (hl : ws.length = 8) (hw : ∀ a ∈ ws, a < w64) : MH ws 0 0 (ws.take 4) :=
  ⟨by decide, by simp [hl], fun a ha => hw a (List.mem_of_mem_take ha), by decide, by simp [vN]⟩
theorem half_law {V V' c c' s l2 T n Y w A : Nat} (e1 : V' + s * A = V + l2 * A) (e2 : l2 + w * c' = n * 38 + s + c) (e3 : V + c * A = T + 38 * Y) :
    V' + c' * (w * A) = T + 38 * (Y + n * A) := by
  have e4 : l2 * A + w * c' * A = n * 38 * A + s * A + c * A := by rw [← Nat.add_mul, e2, Nat.add_mul, Nat.add_mul]
  have e5 : c' * (w * A) = w * c' * A := by grind
  have e6 : 38 * (Y + n * A) = 38 * Y + n * 38 * A := by grind
  rw [e5, e6]
  omega
theorem MH.step {ws os : List Nat} {j c n s c' l2 : Nat} (h : MH ws j c os) (hj : j < 4) (hn : ws[4 + j]? = some n) (hs : os[j]? = some s) (e : l2 + w64 * c' = n * 38 + s + c) (h1 : l2 < w64) (h2 : c' < w64) :
    MH ws (j + 1) c' (os.set j l2) := by
  refine ⟨hj, by simpa using h.hl, mem_set h.hw h1, h2, ?_⟩
  have e1 := vN_set os j s l2 hs
  have e3 := h.hv
  have hn' : (ws.drop 4)[j]? = some n := by rw [List.getElem?_drop]; exact hn
  rw [vN_take_succ _ j n hn', Nat.pow_succ']
  exact half_law e1 e e3
theorem MH.get {ws os : List Nat} {j c : Nat} (h : MH ws j c os) (hj : j < 4) : ∃ s, os[j]? = some s ∧ s < w64 := by
  have hlt : j < os.length := by have := h.hl; omega
  exact ⟨os[j], List.getElem?_eq_getElem hlt, h.hw _ (List.getElem_mem hlt)⟩
theorem half_step {n s c lo hi l1 l2 c1 c2 : Nat} (hn : n < w64) (hs : s < w64) (hc : c < w64) (e0 : hi = n * 38 / w64) (e1 : lo = n * 38 % w64) (e2 : l1 = acw lo c 0) (e3 : c1 = acc lo c 0) (e4 : l2 = acw s l1 0) (e5 : c2 = acc s l1 0) :
    l2 + w64 * (((hi + c1) % w64 + c2) % w64) = n * 38 + s + c ∧ l2 < w64 ∧ ((hi + c1) % w64 + c2) % w64 < w64 := by
  have h1 := (ac_eq lo c 0).1
  have h2 := (ac_eq s l1 0).1
  have h3 := acw_lt s l1 0
  rw [← e2, ← e3] at h1
  rw [← e4, ← e5] at h2
  rw [← e4] at h3
  have h5 : w64 * hi + lo = n * 38 := by rw [e0, e1]; exact Nat.div_add_mod _ _
  clear e0 e1 e2 e3 e4 e5
  simp only [w64] at *
  omega
theorem elN_v (a b c d : Nat) : elN a b c d = vN [a, b, c, d] := by
  simp only [elN, vN, Nat.mul_zero, Nat.add_zero]
  grind
theorem vN_wds {x : Nat} (h : x < w256) : vN (wds x) = x := by
  rw [wds, ← elN_v, elN_wd h]
theorem wds_lt (x : Nat) : ∀ a ∈ wds x, a < w64 := fun a ha => by
  simp only [wds, List.mem_cons, List.not_mem_nil, or_false] at ha
  rcases ha with rfl | rfl | rfl | rfl <;> exact wd_lt _ _
theorem w64_4 : w64 ^ 4 = w256 := by decide
theorem mul_end {x y c : Nat} {ws os : List Nat} (hx : x < w256) (hy : y < w256) (h1 : MO (wds x) (wds y) 4 ws) (h2 : MH ws 4 c os) : (vN os + w256 * c) % P = x * y % P := by
  have e1 := h1.hv
  have e2 := h2.hv
  have l1 : ws.length = 8 := h1.hl
  have t1 : (wds x).take 4 = wds x := rfl
  rw [t1, vN_wds hx, vN_wds hy] at e1
  have t2 : (ws.drop 4).take 4 = ws.drop 4 := List.take_of_length_le (by simp [l1])
  rw [t2, w64_4] at e2
  have e3 : vN ws = vN (ws.take 4) + w256 * vN (ws.drop 4) := by
    have h := vN_app (ws.take 4) (ws.drop 4)
    rw [List.take_append_drop] at h
    rw [h, List.length_take, Nat.min_eq_left (by omega), w64_4]
  have e4 : w256 * vN (ws.drop 4) = 38 * vN (ws.drop 4) + P * (2 * vN (ws.drop 4)) := by
    rw [P_w, Nat.add_mul]
    have : 2 * P * vN (ws.drop 4) = P * (2 * vN (ws.drop 4)) := by rw [Nat.mul_comm 2 P, Nat.mul_assoc]
    omega
  rw [← e1, e3, e4, Nat.mul_comm w256 c, e2, ← Nat.add_assoc, Nat.add_mul_mod_self_left]
theorem fold_l {os : List Nat} {t v : Nat} {w : World} (hl : os.length = 4) (hw : ∀ a ∈ os, a < w64) (ht : t < w64) (hv : (vN os + w256 * t) % P = v) :
    FnAt Try.prog 44 [.agg (W os).toArray, wv t] [] w (Ret fun r N => r = .agg (elV v).toArray ∧ N = []) := by
  match os, hl with
  | [a, b, c, d], _ =>
    rw [← elN_v] at hv
    exact fold_w (hw a (by simp)) (hw b (by simp)) (hw c (by simp)) (hw d (by simp)) ht hv
end Go.Proofs.Ytefphcpaakhfbaa

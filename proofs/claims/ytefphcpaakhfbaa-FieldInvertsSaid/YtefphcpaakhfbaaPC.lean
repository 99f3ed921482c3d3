/-
  The field of 2^255 - 19 elements: powers, inverses, roots.
-/
import Derived.Test.YtefphcpaakhfbaaPB
namespace Go.Fp

instance : NeZero P := ⟨by decide⟩
abbrev F := Fin P
theorem F.ext' {a b : F} (h : a.val = b.val) : a = b := Fin.ext h
theorem P_gt2 : 2 < P := by decide
theorem one_val : (1 : F).val = 1 := by decide
theorem zero_val : (0 : F).val = 0 := rfl
theorem mul_val (a b : F) : (a * b).val = a.val * b.val % P := Fin.val_mul a b
theorem add_val (a b : F) : (a + b).val = (a.val + b.val) % P := Fin.val_add a b
theorem neg_val (a : F) : (-a).val = (P - a.val) % P := by
  rw [Fin.val_neg']
theorem one_ne_zero : (1 : F) ≠ 0 := by decide

/-- No two elements but 0 have the product 0. -/
theorem mul_zero {a b : F} (h : a * b = 0) : a = 0 ∨ b = 0 := by
  have h1 : P ∣ a.val * b.val := by
    rw [Nat.dvd_iff_mod_eq_zero, ← mul_val, h]; rfl
  have hz : ∀ c : F, P ∣ c.val → c = 0 := fun c hc => by
    have h2 := Nat.dvd_iff_mod_eq_zero.1 hc
    rw [Nat.mod_eq_of_lt c.isLt] at h2
    exact F.ext' h2
  rcases pr4.dvd_mul h1 with h | h
  · exact .inl (hz _ h)
  · exact .inr (hz _ h)
theorem mul_ne_zero {a b : F} (ha : a ≠ 0) (hb : b ≠ 0) : a * b ≠ 0 := fun h => by
  rcases mul_zero h with h | h
  · exact ha h
  · exact hb h
theorem mul_cancel {a b c : F} (ha : a ≠ 0) (h : a * b = a * c) : b = c := by
  have h1 : a * (b - c) = 0 := by grind
  rcases mul_zero h1 with h1 | h1
  · exact absurd h1 ha
  · grind

/-! ## Powers -/
def fp (a : F) (n : Nat) : F := ⟨a.val ^ n % P, Nat.mod_lt _ P_pos⟩
theorem fp_val (a : F) (n : Nat) : (fp a n).val = a.val ^ n % P := rfl
theorem fp_zero (a : F) : fp a 0 = 1 := by
  apply F.ext'; rw [fp_val, Nat.pow_zero]; decide
theorem fp_add (a : F) (m n : Nat) : fp a (m + n) = fp a m * fp a n := by
  apply F.ext'; rw [mul_val, fp_val, fp_val, fp_val, Nat.pow_add, Nat.mul_mod]
theorem fp_one (a : F) : fp a 1 = a := by
  apply F.ext'; rw [fp_val, Nat.pow_one, Nat.mod_eq_of_lt a.isLt]
theorem fp_succ (a : F) (n : Nat) : fp a (n + 1) = fp a n * a := by rw [fp_add, fp_one]
theorem fp_mul (a : F) (m n : Nat) : fp a (m * n) = fp (fp a m) n := by
  apply F.ext'; rw [fp_val, fp_val, fp_val, Nat.pow_mul, ← Nat.pow_mod]
theorem fp_base (a b : F) (n : Nat) : fp (a * b) n = fp a n * fp b n := by
  apply F.ext'
  rw [mul_val, fp_val, fp_val, fp_val, mul_val, ← Nat.pow_mod, Nat.mul_pow, Nat.mul_mod]
theorem fp_two (a : F) : fp a 2 = a * a := by rw [fp_succ, fp_one]
theorem fp_fermat {a : F} (h : a ≠ 0) : fp a (P - 1) = 1 := by
  apply F.ext'
  rw [fp_val, one_val]
  refine fermat pr4 fun hd => h ?_
  have h2 := Nat.dvd_iff_mod_eq_zero.1 hd
  rw [Nat.mod_eq_of_lt a.isLt] at h2
  exact F.ext' h2
theorem fp_zero_base {n : Nat} (h : 0 < n) : fp 0 n = 0 := by
  apply F.ext'; rw [fp_val, zero_val, Nat.zero_pow h]; rfl
theorem fp_ne {a : F} (h : a ≠ 0) : ∀ n, fp a n ≠ 0
  | 0 => by rw [fp_zero]; exact one_ne_zero
  | n + 1 => by rw [fp_succ]; exact mul_ne_zero (fp_ne h n) h

/-! ## Inverses -/
def inv (a : F) : F := fp a (P - 2)
theorem mul_inv {a : F} (h : a ≠ 0) : a * inv a = 1 := by
  have e : P - 1 = (P - 2) + 1 := by decide
  have := fp_fermat h
  rw [e, fp_succ] at this
  unfold inv
  grind
theorem inv_zero : inv 0 = 0 := fp_zero_base (by decide)
theorem inv_ne {a : F} (h : a ≠ 0) : inv a ≠ 0 := fp_ne h _
theorem inv_mul (a b : F) : inv (a * b) = inv a * inv b := fp_base a b _
theorem inv_of {a b : F} (h : a * b = 1) : inv a = b := by
  have ha : a ≠ 0 := fun e => by subst e; exact one_ne_zero (by grind)
  exact mul_cancel ha (by rw [mul_inv ha, h])

/-! ## Roots -/
theorem neg_even {r : F} (h : r.val % 2 = 1) : (-r).val % 2 = 0 := by
  have hr := r.isLt
  rw [neg_val]
  have h0 : P % 2 = 1 := by decide
  have h1 : P - r.val < P := by omega
  rw [Nat.mod_eq_of_lt h1]
  omega
theorem sq_eq {a b : F} (h : a * a = b * b) : a = b ∨ a = -b := by
  have h1 : (a - b) * (a + b) = 0 := by grind
  rcases mul_zero h1 with h1 | h1
  · exact .inl (by grind)
  · exact .inr (by grind)
theorem sq_one {a : F} (h : a * a = 1) : a = 1 ∨ a = -1 := sq_eq (b := 1) (by grind)
/-- The exponents. -/
def eH : Nat := 28948022309329048855892746252171976963317496166410141009864396001978282409974
def eR : Nat := 7237005577332262213973186563042994240829374041602535252466099000494570602494
def eI : Nat := 14474011154664524427946373126085988481658748083205070504932198000989141204987
theorem eH_eq : eH * 2 = P - 1 := by decide
theorem eI_eq : eI * 2 = eH := by decide
theorem eR_eq : eR * 2 = eI + 1 := by decide
/-- The power that tells squares. -/
def chi (a : F) : F := fp a eH
def iF : F := fp 2 eI
theorem chi_two : chi 2 = -1 := by
  apply F.ext'
  unfold chi
  rw [fp_val, ← Nat.one_mul ((2 : F).val ^ _), ← pm_eq P 256 _ _ 1 (by decide)]
  decide +kernel
theorem iF_sq : iF * iF = -1 := by
  rw [← fp_two, iF, ← fp_mul, ← chi_two, eI_eq]
  rfl
theorem neg_one_ne : (-1 : F) ≠ 1 := by decide
theorem chi_or {a : F} (h : a ≠ 0) : chi a = 1 ∨ chi a = -1 := by
  apply sq_one
  rw [← fp_two]
  unfold chi
  rw [← fp_mul, eH_eq]
  exact fp_fermat h
theorem chi_mul (a b : F) : chi (a * b) = chi a * chi b := fp_base a b _
theorem chi_sq {a : F} (h : a ≠ 0) : chi (a * a) = 1 := by
  unfold chi
  rw [← fp_two, ← fp_mul, Nat.mul_comm, eH_eq]
  exact fp_fermat h
def rootR (x : F) : F := if fp x eR * fp x eR = x then fp x eR else fp x eR * iF
def rootF (x : F) : Option F := if rootR x * rootR x = x then some (if (rootR x).val % 2 = 1 then -rootR x else rootR x) else none
theorem root_key {x u r i : F} (hu : u * u = 1) (hr : r * r = u * x) (hi : i * i = -1) : (if r * r = x then r else r * i) * (if r * r = x then r else r * i) = x := by
  split
  · assumption
  · rename_i hne
    rcases sq_one hu with h1 | h1
    · exact absurd (by rw [hr, h1]; grind) hne
    · rw [h1] at hr
      grind
theorem root_chi {x : F} (h : chi x = 1) : rootR x * rootR x = x := by
  have hu : fp x eI * fp x eI = 1 := by
    rw [← fp_two, ← fp_mul, ← h, eI_eq]; rfl
  have hr : fp x eR * fp x eR = fp x eI * x := by
    rw [← fp_two, ← fp_mul, ← fp_succ, eR_eq]
  exact root_key hu hr iF_sq
theorem neg_sq (a : F) : (-a) * (-a) = a * a := by grind
theorem rootF_some {x r : F} (h : rootF x = some r) : r * r = x ∧ r.val % 2 = 0 := by
  unfold rootF at h
  split at h
  · rename_i hs
    injection h with h
    split at h
    · rename_i hodd
      subst h
      exact ⟨(neg_sq _).trans hs, neg_even hodd⟩
    · rename_i hodd
      subst h
      exact ⟨hs, by omega⟩
  · cases h
theorem rootF_sq (y : F) : ∃ r, rootF (y * y) = some r ∧ (r = y ∨ r = -y) := by
  have hs : rootR (y * y) * rootR (y * y) = y * y := by
    by_cases hy : y = 0
    · subst hy
      have hz : fp (0 * 0) eR = 0 := by
        have : (0 * 0 : F) = 0 := by grind
        rw [this]; exact fp_zero_base (by decide)
      have h1 : (0 : F) * 0 = 0 * 0 := rfl
      unfold rootR
      rw [hz, if_pos h1]
    · exact root_chi (chi_sq hy)
  have hr : ∃ r, rootF (y * y) = some r := by
    unfold rootF
    rw [if_pos hs]
    exact ⟨_, rfl⟩
  obtain ⟨r, hr⟩ := hr
  exact ⟨r, hr, sq_eq (rootF_some hr).1⟩
theorem rootF_chi {x : F} (hx : x ≠ 0) : (rootF x).isSome = true ↔ chi x = 1 := by
  constructor
  · intro h
    obtain ⟨r, hr⟩ := Option.isSome_iff_exists.1 h
    have h1 := (rootF_some hr).1
    have hr0 : r ≠ 0 := fun e => by subst e; exact hx (by grind)
    rw [← h1]; exact chi_sq hr0
  · intro h
    unfold rootF
    rw [if_pos (root_chi h)]; rfl
theorem two_ne : (2 : F) ≠ 0 := by decide
/-- Of x and twice x just one has a root. -/
theorem rootF_twice {x : F} (hx : x ≠ 0) : (rootF x).isSome ≠ (rootF (2 * x)).isSome := by
  have h2 : 2 * x ≠ 0 := mul_ne_zero two_ne hx
  have e1 := rootF_chi hx
  have e2 := rootF_chi h2
  rw [chi_mul, chi_two] at e2
  rcases chi_or hx with h | h
  · rw [h] at e1 e2
    intro he
    rw [he] at e1
    have := e2.1 (e1.2 rfl)
    exact neg_one_ne (by grind)
  · rw [h] at e1 e2
    intro he
    rw [he] at e1
    have := e1.1 (e2.2 (by grind))
    exact neg_one_ne this
end Go.Fp

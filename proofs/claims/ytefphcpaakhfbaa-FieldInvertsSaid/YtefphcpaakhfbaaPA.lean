/-
  Primes, Fermat's theorem, and a test of primes (after Pocklington), in plain numbers.
-/
namespace Go.Fp

def Pr (n : Nat) : Prop := 1 < n ∧ ∀ d, d ∣ n → d = 1 ∨ d = n

theorem Pr.cop {p a : Nat} (hp : Pr p) (h : ¬ p ∣ a) : Nat.Coprime p a := by
  rcases hp.2 (Nat.gcd p a) (Nat.gcd_dvd_left p a) with h1 | h1
  · exact h1
  · refine absurd ?_ h
    have := Nat.gcd_dvd_right p a
    rwa [h1] at this
theorem Pr.dvd_mul {p a b : Nat} (hp : Pr p) (h : p ∣ a * b) : p ∣ a ∨ p ∣ b := by
  by_cases ha : p ∣ a
  · exact .inl ha
  · exact .inr ((hp.cop ha).dvd_of_dvd_mul_left h)
theorem Pr.dvd_pow {p a : Nat} (hp : Pr p) : ∀ {k : Nat}, p ∣ a ^ k → p ∣ a
  | 0, h => by
    have h1 : p = 1 := by simpa using h
    have := hp.1
    omega
  | k + 1, h => by
    rw [Nat.pow_succ] at h
    rcases hp.dvd_mul h with h | h
    · exact hp.dvd_pow h
    · exact h

theorem least_dvd (n : Nat) (h : 1 < n) : ∃ r, Pr r ∧ r ∣ n ∧ (¬ Pr n → r * r ≤ n) := by
  induction n using Nat.strongRecOn with
  | _ n ih =>
    by_cases hp : Pr n
    · exact ⟨n, hp, Nat.dvd_refl n, fun h => absurd hp h⟩
    · have : ∃ d e, d * e = n ∧ 1 < d ∧ d < n ∧ d ≤ e := by
        apply Classical.byContradiction
        intro hno
        refine hp ⟨h, fun d hd => ?_⟩
        obtain ⟨e, rfl⟩ := hd
        apply Classical.byContradiction
        intro hne
        have h1 : d ≠ 1 := fun h1 => hne (.inl h1)
        have h2 : d ≠ d * e := fun h2 => hne (.inr h2)
        have hd0 : d ≠ 0 := fun h0 => by subst h0; simp at h
        have he0 : e ≠ 0 := fun h0 => by subst h0; simp at h
        have he1 : e ≠ 1 := fun h1 => h2 (by subst h1; simp)
        have hd2 : 2 ≤ d := by omega
        have he2 : 2 ≤ e := by omega
        have hde : d * 2 ≤ d * e := Nat.mul_le_mul_left d he2
        have hed : 2 * e ≤ d * e := Nat.mul_le_mul_right e hd2
        rcases Nat.le_total d e with hle | hle
        · exact hno ⟨d, e, rfl, by omega, by omega, hle⟩
        · exact hno ⟨e, d, Nat.mul_comm e d, by omega, by omega, hle⟩
      obtain ⟨d, e, hde, hd1, hdn, hle⟩ := this
      obtain ⟨r, hr, hrd, hsq⟩ := ih d hdn hd1
      refine ⟨r, hr, Nat.dvd_trans hrd ⟨e, hde.symm⟩, fun _ => ?_⟩
      have h1 : r ≤ d := Nat.le_of_dvd (by omega) hrd
      calc r * r ≤ d * d := Nat.mul_le_mul h1 h1
        _ ≤ d * e := Nat.mul_le_mul_left d hle
        _ = n := hde

/-! ## The binomial row of a prime -/
def bin : Nat → Nat → Nat
  | _, 0 => 1
  | 0, _ + 1 => 0
  | n + 1, k + 1 => bin n k + bin n (k + 1)
theorem bin_zero (n : Nat) : bin n 0 = 1 := by cases n <;> rfl
theorem bin_succ (n k : Nat) : bin (n + 1) (k + 1) = bin n k + bin n (k + 1) := rfl
theorem bin_above : ∀ (n k : Nat), n < k → bin n k = 0
  | _, 0, h => by omega
  | 0, k + 1, _ => rfl
  | n + 1, k + 1, h => by rw [bin_succ, bin_above n k (by omega), bin_above n (k + 1) (by omega)]
theorem bin_self : ∀ n : Nat, bin n n = 1
  | 0 => rfl
  | n + 1 => by rw [bin_succ, bin_self n, bin_above n (n + 1) (by omega)]
theorem bin_mul : ∀ (n k : Nat), (k + 1) * bin (n + 1) (k + 1) = (n + 1) * bin n k
  | 0, 0 => rfl
  | 0, k + 1 => by rw [bin_succ, bin_above 0 (k + 1) (by omega), bin_above 0 (k + 1 + 1) (by omega)]; simp
  | n + 1, 0 => by
    have ih := bin_mul n 0
    rw [bin_succ (n + 1) 0, bin_zero]
    simp only [bin_zero] at ih
    omega
  | n + 1, j + 1 => by
    have i1 := bin_mul n j
    have i2 := bin_mul n (j + 1)
    rw [bin_succ (n + 1) (j + 1), Nat.mul_add, i2]
    have e : (j + 1 + 1) * bin (n + 1) (j + 1) = (n + 1) * bin n j + bin (n + 1) (j + 1) := by
      rw [Nat.add_mul (j + 1) 1, i1, Nat.one_mul]
    rw [e, bin_succ n j, Nat.add_mul (n + 1) 1, Nat.one_mul, Nat.mul_add (n + 1)]
    omega

def sm (x n : Nat) : Nat → Nat
  | 0 => 0
  | m + 1 => sm x n m + bin n m * x ^ m
theorem sm_succ (x n : Nat) : ∀ m, sm x (n + 1) (m + 1) = sm x n (m + 1) + x * sm x n m
  | 0 => by simp [sm, bin_zero]
  | m + 1 => by
    have ih := sm_succ x n m
    rw [show sm x (n + 1) (m + 1 + 1) = sm x (n + 1) (m + 1) + bin (n + 1) (m + 1) * x ^ (m + 1) from rfl, ih, bin_succ,
      show sm x n (m + 1 + 1) = sm x n (m + 1) + bin n (m + 1) * x ^ (m + 1) from rfl]
    have e : x * sm x n (m + 1) = x * sm x n m + bin n m * x ^ (m + 1) := by
      rw [show sm x n (m + 1) = sm x n m + bin n m * x ^ m from rfl, Nat.mul_add, Nat.pow_succ]
      congr 1
      rw [Nat.mul_comm x, Nat.mul_assoc]
    rw [e, Nat.add_mul]
    omega
theorem binomial (x : Nat) : ∀ n, (1 + x) ^ n = sm x n (n + 1)
  | 0 => by simp [sm, bin_zero]
  | n + 1 => by
    rw [Nat.pow_succ, binomial x n, sm_succ, show sm x n (n + 1 + 1) = sm x n (n + 1) + bin n (n + 1) * x ^ (n + 1) from rfl, bin_above n (n + 1) (by omega), Nat.mul_add, Nat.mul_comm x]
    omega
theorem prime_bin {p : Nat} (hp : Pr p) {k : Nat} (h0 : 0 < k) (hk : k < p) : p ∣ bin p k := by
  obtain ⟨k, rfl⟩ : ∃ j, k = j + 1 := ⟨k - 1, by omega⟩
  obtain ⟨q, rfl⟩ : ∃ j, p = j + 1 := ⟨p - 1, by omega⟩
  have h : (q + 1) ∣ (k + 1) * bin (q + 1) (k + 1) := ⟨bin q k, bin_mul q k⟩
  rcases hp.dvd_mul h with h1 | h1
  · have := Nat.le_of_dvd (by omega) h1
    omega
  · exact h1
theorem sm_prime {p : Nat} (hp : Pr p) (x : Nat) : ∀ m, 0 < m → m ≤ p → sm x p m % p = 1
  | 0, h, _ => by omega
  | 1, _, _ => by
    have := hp.1
    simp [sm, bin_zero]
    exact Nat.mod_eq_of_lt hp.1
  | m + 2, _, h => by
    obtain ⟨c, hc⟩ := prime_bin hp (show 0 < m + 1 by omega) (by omega)
    rw [show sm x p (m + 2) = sm x p (m + 1) + bin p (m + 1) * x ^ (m + 1) from rfl, hc, Nat.mul_assoc, Nat.add_mul_mod_self_left]
    exact sm_prime hp x (m + 1) (by omega) (by omega)
theorem pow_succ_prime {p : Nat} (hp : Pr p) (x : Nat) : (1 + x) ^ p % p = (1 + x ^ p) % p := by
  rw [binomial, show sm x p (p + 1) = sm x p p + bin p p * x ^ p from rfl, bin_self, Nat.one_mul, Nat.add_mod, sm_prime hp x p (by have := hp.1; omega) (Nat.le_refl _), Nat.add_mod 1 (x ^ p)]
  have : 1 % p = 1 := Nat.mod_eq_of_lt hp.1
  rw [this]
theorem fermat' {p : Nat} (hp : Pr p) : ∀ a : Nat, a ^ p % p = a % p
  | 0 => by
    have := hp.1
    rw [Nat.zero_pow (by omega)]
  | a + 1 => by
    rw [Nat.add_comm a 1, pow_succ_prime hp, Nat.add_mod, fermat' hp a, ← Nat.add_mod]
theorem mod_eq_iff {n a b : Nat} (h : b ≤ a) : a % n = b % n ↔ n ∣ a - b := by
  rw [Nat.dvd_iff_mod_eq_zero]
  constructor
  · exact fun e => Nat.sub_mod_eq_zero_of_mod_eq e
  · intro e
    have := (Nat.dvd_iff_mod_eq_zero.2 e)
    obtain ⟨c, hc⟩ := this
    have : a = b + n * c := by omega
    rw [this, Nat.add_mul_mod_self_left]
theorem fermat {p : Nat} (hp : Pr p) {a : Nat} (h : ¬ p ∣ a) : a ^ (p - 1) % p = 1 := by
  have h1 := fermat' hp a
  have hp1 := hp.1
  have hpos : 0 < a := Nat.pos_of_ne_zero fun e => h (by rw [e]; exact Nat.dvd_zero p)
  have e : a ^ p = a * a ^ (p - 1) := by
    obtain ⟨q, rfl⟩ : ∃ j, p = j + 1 := ⟨p - 1, by omega⟩
    rw [Nat.pow_succ, Nat.mul_comm]; rfl
  have hge : 1 ≤ a ^ (p - 1) := Nat.pow_pos hpos
  have hle : a ≤ a ^ p := by
    rw [e]; exact Nat.le_mul_of_pos_right a hge
  have hd := (mod_eq_iff hle).1 h1
  have e2 : a ^ p - a = a * (a ^ (p - 1) - 1) := by rw [e, Nat.mul_sub, Nat.mul_one]
  rw [e2] at hd
  rcases hp.dvd_mul hd with h2 | h2
  · exact absurd h2 h
  · have := (mod_eq_iff hge).2 h2
    rw [this]; exact Nat.mod_eq_of_lt hp1

/-! ## A test -/
theorem pow_mod_one {a r : Nat} {x : Nat} (h : a ^ x % r = 1 % r) (k : Nat) : a ^ (x * k) % r = 1 % r := by
  rw [Nat.pow_mul, Nat.pow_mod, h]
  by_cases h1 : r = 1
  · subst h1; simp [Nat.mod_one]
  · by_cases h0 : r = 0
    · subst h0; simp
    · have h2 : 1 % r = 1 := Nat.mod_eq_of_lt (show 1 < r by omega)
      rw [h2, Nat.one_pow, h2]
theorem pow_gcd {a r : Nat} : ∀ (x y : Nat), a ^ x % r = 1 % r → a ^ y % r = 1 % r → a ^ (Nat.gcd x y) % r = 1 % r := by
  intro x y
  induction x, y using Nat.gcd.induction with
  | H0 y => intro _ h; simpa using h
  | H1 x y hx ih =>
    intro h1 h2
    rw [Nat.gcd_rec]
    refine ih ?_ h1
    have e : a ^ y = a ^ (x * (y / x)) * a ^ (y % x) := by rw [← Nat.pow_add, Nat.div_add_mod]
    rw [e, Nat.mul_mod, pow_mod_one h1, ← Nat.mul_mod, Nat.one_mul] at h2
    exact h2
theorem pock {n q t K : Nat} (hq : Pr q) (h1 : 1 < n) (ht : t ^ q % n = 1) (hg : Nat.gcd (t - 1) n = 1) (h0 : 0 < t)
    (hK : ∀ k, k < K → n % ((k + 1) * q + 1) ≠ 0) (hb : n < ((K + 1) * q + 1) * ((K + 1) * q + 1)) : Pr n := by
  apply Classical.byContradiction
  intro hn
  obtain ⟨r, hr, hrn, hsq⟩ := least_dvd n h1
  have hsq := hsq hn
  have hr1 := hr.1
  have ht' : t ^ q % r = 1 % r := by
    obtain ⟨c, rfl⟩ := hrn
    have := congrArg (· % r) ht
    simpa [Nat.mod_mul_right_mod] using this
  have hnd : ¬ r ∣ t := fun hd => by
    have h2 : r ∣ t ^ q := by
      have e : t ^ q = t * t ^ (q - 1) := by
        rw [← Nat.pow_succ']; congr 1; have := hq.1; omega
      rw [e]; exact Nat.dvd_mul_right_of_dvd hd _
    rw [Nat.dvd_iff_mod_eq_zero, ht', Nat.mod_eq_of_lt hr1] at h2
    cases h2
  have hf := fermat hr hnd
  have hgc := pow_gcd q (r - 1) ht' (by rw [hf, Nat.mod_eq_of_lt hr1])
  rcases hq.2 _ (Nat.gcd_dvd_left q (r - 1)) with h2 | h2
  · rw [h2, Nat.pow_one] at hgc
    have hd := (mod_eq_iff (show 1 ≤ t from h0)).1 hgc
    have := Nat.dvd_gcd hd hrn
    rw [hg] at this
    have := Nat.le_of_dvd (by decide) this
    omega
  · have hd : q ∣ r - 1 := by
      have := Nat.gcd_dvd_right q (r - 1)
      rwa [h2] at this
    obtain ⟨c, hc⟩ := hd
    have hc0 : c ≠ 0 := fun e => by subst e; omega
    have hrq : r = c * q + 1 := by rw [Nat.mul_comm]; omega
    by_cases hck : c ≤ K
    · refine hK (c - 1) (by omega) ?_
      have : c - 1 + 1 = c := by omega
      rw [this, ← hrq]
      exact Nat.dvd_iff_mod_eq_zero.1 hrn
    · have hle : (K + 1) * q + 1 ≤ r := by
        rw [hrq]
        have : (K + 1) * q ≤ c * q := Nat.mul_le_mul_right q (by omega)
        omega
      have := Nat.mul_le_mul hle hle
      omega

/-- Powers, reckoned. -/
def pm (n : Nat) : Nat → Nat → Nat → Nat → Nat
  | 0, _, _, acc => acc
  | f + 1, b, e, acc => pm n f (b * b % n) (e / 2) (bif e % 2 == 1 then acc * b % n else acc)
theorem pm_eq (n : Nat) : ∀ (f b e acc : Nat), e < 2 ^ f → pm n f b e acc % n = acc * b ^ e % n
  | 0, b, e, acc, h => by
    have : e = 0 := by simpa using h
    subst this; simp [pm]
  | f + 1, b, e, acc, h => by
    rw [pm, pm_eq n f _ _ _ (by rw [Nat.pow_succ] at h; omega)]
    have hb : ∀ c, c * (b * b % n) ^ (e / 2) % n = c * (b * b) ^ (e / 2) % n := fun c => by
      rw [Nat.mul_mod, ← Nat.pow_mod, ← Nat.mul_mod]
    rw [hb]
    have h2 : (b * b) ^ (e / 2) = b ^ (2 * (e / 2)) := by rw [Nat.pow_mul]; congr 1; rw [Nat.pow_two]
    rw [h2]
    rcases Nat.mod_two_eq_zero_or_one e with he | he
    · have : 2 * (e / 2) = e := by omega
      rw [this, he]; rfl
    · have h3 : b ^ e = b * b ^ (2 * (e / 2)) := by
        rw [← Nat.pow_succ']; congr 1; omega
      rw [he]
      show acc * b % n * b ^ (2 * (e / 2)) % n = _
      rw [h3, Nat.mul_mod, Nat.mod_mod, ← Nat.mul_mod, Nat.mul_assoc]

def trial (n : Nat) : Nat → Nat → Bool
  | 0, _ => true
  | f + 1, d => bif n % d == 0 then false else trial n f (d + 1)
theorem trial_spec (n : Nat) : ∀ (f d : Nat), trial n f d = true → ∀ k, d ≤ k → k < d + f → n % k ≠ 0
  | 0, d, _, k, h1, h2 => by omega
  | f + 1, d, h, k, h1, h2 => by
    simp only [trial] at h
    cases hb : n % d == 0 with
    | true => rw [hb] at h; cases h
    | false =>
      rw [hb] at h
      by_cases hk : k = d
      · subst hk; simpa using hb
      · exact trial_spec n f (d + 1) h k (by omega) (by omega)
theorem prime_trial {n f : Nat} (h1 : 1 < n) (ht : trial n f 2 = true) (hf : n < (f + 2) * (f + 2)) : Pr n := by
  apply Classical.byContradiction
  intro hn
  obtain ⟨r, hr, hrn, hsq⟩ := least_dvd n h1
  have hsq := hsq hn
  have hlt : r < f + 2 := by
    rcases Nat.lt_or_ge r (f + 2) with h | h
    · exact h
    · have := Nat.mul_le_mul h h; omega
  exact trial_spec n f 2 ht r hr.1 (by omega) (Nat.dvd_iff_mod_eq_zero.1 hrn)
/-- The test's rounds of trial division by what is 1 above a multiple of q. -/
def trialQ (n q : Nat) : Nat → Nat → Bool
  | 0, _ => true
  | f + 1, k => bif n % ((k + 1) * q + 1) == 0 then false else trialQ n q f (k + 1)
theorem trialQ_spec (n q : Nat) : ∀ (f k : Nat), trialQ n q f k = true → ∀ j, k ≤ j → j < k + f → n % ((j + 1) * q + 1) ≠ 0
  | 0, d, _, k, h1, h2 => by omega
  | f + 1, d, h, k, h1, h2 => by
    simp only [trialQ] at h
    cases hb : n % ((d + 1) * q + 1) == 0 with
    | true => rw [hb] at h; cases h
    | false =>
      rw [hb] at h
      by_cases hk : k = d
      · subst hk; simpa using hb
      · exact trialQ_spec n q f (d + 1) h k (by omega) (by omega)
def pockB (n q t K f : Nat) : Bool :=
  Nat.blt 1 n && Nat.blt 0 t && Nat.beq (pm n f t q 1 % n) 1 && Nat.beq (Nat.gcd (t - 1) n) 1 && trialQ n q K 0 && Nat.blt n (((K + 1) * q + 1) * ((K + 1) * q + 1))
theorem prime_pock {n q : Nat} (hq : Pr q) (t K f : Nat) (hf : q < 2 ^ f) (h : pockB n q t K f = true) : Pr n := by
  simp only [pockB, Bool.and_eq_true, Nat.blt_eq] at h
  obtain ⟨⟨⟨⟨⟨h1, h2⟩, h3⟩, h4⟩, h5⟩, h6⟩ := h
  have h3 := Nat.eq_of_beq_eq_true h3
  have h4 := Nat.eq_of_beq_eq_true h4
  rw [pm_eq n f t q 1 hf, Nat.one_mul] at h3
  exact pock (K := K) hq h1 h3 h4 h2 (fun k hk => trialQ_spec n q K 0 h5 k (Nat.zero_le _) (by omega)) h6
end Go.Fp

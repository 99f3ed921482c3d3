/-
  What the reference's taking round comes to.
-/
import Derived.Test.YtefphcpaakhfbaaL8
namespace Go.Proofs.Ytefphcpaakhfbaa
open Go Go.Sl Go.RowKit Go.Fp

theorem OB.pos {bs : List UInt8} {ao : Option Addr} {c : Nat} {N : List Blk} (h : OB bs ao c N) (h0 : 0 < bs.length) : ∃ b, ao = Option.some ⟨b, 0, Option.none⟩ ∧ N = [⟨b, 5, c * 1, B bs, (0, 0)⟩] := by
  cases h with
  | none h => subst h; simp at h0
  | some h => exact ⟨_, rfl, rfl⟩
theorem leN_nil {rs : List UInt8} (h : rs.length = 0) : leN rs = 0 := by
  rw [List.length_eq_zero_iff] at h; subst h; rfl
theorem NZ.zero {rs : List UInt8} (h : NZ rs) (h0 : leN rs = 0) : rs = [] := by
  have := h.len (k := 0) (by rw [h0]; decide)
  exact List.length_eq_zero_iff.1 (by omega)
theorem NZ.small {rs : List UInt8} {u : UInt8} (h : NZ rs) (h0 : leN rs = u.toNat) (hu : 0 < u.toNat) : rs = [u] := by
  have h1 := h.len (k := 1) (by rw [h0]; have := u.toNat_lt; omega)
  have h2 : rs.length ≠ 0 := fun e => by rw [leN_nil e] at h0; omega
  match rs, (by omega : rs.length = 1) with
  | [v], _ =>
    rw [leN_one] at h0
    rw [UInt8.toNat_inj.1 h0]
theorem NB.zero {v : Value} {N : List Blk} (h : NB 0 v N) : ∃ ao c, v = .slice ao 0 c := by
  obtain ⟨rs, ao, c, rfl, _, h0, hz⟩ := h
  have := hz.zero h0
  subst this
  exact ⟨ao, c, rfl⟩
theorem NB.small {v : Value} {N : List Blk} (u : UInt8) (h : NB u.toNat v N) (hu : 0 < u.toNat) : ∃ b c, v = .slice (some ⟨b, 0, none⟩) 1 c ∧ N = [⟨b, 5, c * 1, B [u], (0, 0)⟩] := by
  obtain ⟨rs, ao, c, rfl, hO, h0, hz⟩ := h
  have := hz.small h0 hu
  subst this
  obtain ⟨b, rfl, rfl⟩ := hO.pos (by simp)
  exact ⟨b, c, rfl, rfl⟩
theorem leN_set : ∀ (l : List UInt8) (i : Nat) (u : UInt8) (h : i < l.length), leN (l.set i u) + l[i].toNat * 256 ^ i = leN l + u.toNat * 256 ^ i
  | [], i, u, h => by simp at h
  | b :: r, 0, u, h => by
    simp only [List.set_cons_zero, leN, List.getElem_cons_zero, Nat.pow_zero, Nat.mul_one]; omega
  | b :: r, i + 1, u, h => by
    have hi : i < r.length := by simpa using h
    have ih := leN_set r i u hi
    simp only [List.set_cons_succ, leN, List.getElem_cons_succ, Nat.pow_succ']
    have e1 : r[i].toNat * (256 * 256 ^ i) = 256 * (r[i].toNat * 256 ^ i) := by rw [Nat.mul_left_comm]
    have e2 : u.toNat * (256 * 256 ^ i) = 256 * (u.toNat * 256 ^ i) := by rw [Nat.mul_left_comm]
    rw [e1, e2]; omega
theorem p31 : 128 * 256 ^ 31 = P + 19 := by decide
theorem p31' : 256 ^ 31 ≤ P + 19 := by decide
theorem rnd_b1 {rs : List UInt8} (h1 : rs.length ≤ 32) (h2 : ¬ rs.length = 32) : leN rs < P + 19 :=
  Nat.lt_of_lt_of_le (Nat.lt_of_lt_of_le (leN_lt rs) (Nat.pow_le_pow_right (by decide) (by omega : rs.length ≤ 31))) p31'
theorem rnd_top {rs : List UInt8} (h : rs.length = 32) : leN rs = leN (rs.take 31) + 256 ^ 31 * (rs[31]'(by omega)).toNat ∧ leN (rs.take 31) < 256 ^ 31 := by
  have h1 := leN_take_succ (l := rs) (i := 31) (by omega)
  rw [List.take_of_length_le (by omega : rs.length ≤ 31 + 1)] at h1
  have h2 := leN_lt (rs.take 31)
  have h3 : (rs.take 31).length = 31 := by simp; omega
  rw [h3] at h2
  exact ⟨h1, h2⟩
theorem rnd_b2 {rs : List UInt8} (h : rs.length = 32) (h2 : ¬ (rs[31]'(by omega)).toNat > 127) : leN rs < P + 19 := by
  obtain ⟨h1, h3⟩ := rnd_top h
  have h4 : 256 ^ 31 * (rs[31]'(by omega)).toNat ≤ 256 ^ 31 * 127 := Nat.mul_le_mul_left _ (by omega)
  rw [← p31, h1]
  omega
theorem rnd_set {rs : List UInt8} {u : UInt8} (h : rs.length = 32) (h2 : (rs[31]'(by omega)).toNat > 127) (hu : u.toNat = (rs[31]'(by omega)).toNat % 128) : leN (rs.set 31 u) + (P + 19) = leN rs := by
  have h1 := leN_set rs 31 u (by omega)
  have h3 := (rs[31]'(by omega)).toNat_lt
  have e : (rs[31]'(by omega)).toNat = u.toNat + 128 := by omega
  rw [e, Nat.add_mul, p31] at h1
  omega
theorem rnd_next {x y : Nat} (h : y + (P + 19) = x) (hx : x < w256) : (y + 19) % P = x % P ∧ y + 19 < w256 ∧ y + 19 < x := by
  have e : x = (y + 19) + P := by omega
  refine ⟨by rw [e, Nat.add_mod_right], by omega, ?_⟩
  have := P_gt2
  omega
structure RI where
  rs : List UInt8
  ao : Option Addr
  c : Nat
  N : List Blk
theorem cmp_geq (x : Nat) : Value.bool (decide (cmpZ x P ≥ 0)) = .bool (decide (P ≤ x)) := by
  congr 1
  rw [decide_eq_decide]
  unfold cmpZ
  split
  · simp; omega
  · split
    · simp; omega
    · simp; omega
theorem rnd_sub {x : Nat} (h : P ≤ x) : (x - P) % P = x % P ∧ x - P < x := by
  have := P_pos
  exact ⟨(Nat.mod_eq_sub_mod h).symm, by omega⟩
theorem GL_drop {n : Nat} {D : List Deferred} {X : List Nat} {w0 : World} {Q : Exit → Act → World → Prop} {E : Env} {M M' M2 : List Blk} {ops : Array Oper} {l : List Oper} (hM : Pick M M' M2) (h : GL Try.prog n D X w0 Q ops l E M') : GL Try.prog n D X w0 Q ops l E M :=
  fun a w s => h a w ⟨s.1, s.2.pick hM⟩
theorem Pick.suf : ∀ N M : List Blk, Pick (N ++ M) M N
  | [], M => Pick.rfl' M
  | _ :: N, M => (Pick.suf N M).skip
theorem quo8 {k : IntKind} {n : Nat} {D : List Deferred} {X : List Nat} {w0 : World} {E : Env} {M : List Blk} {tt t ty : TypeId} {x y : Operand} {a b : Nat} (hx : ev E x = some (.int k (a : Int))) (hy : ev E y = some (.int k (b : Int))) (hb : 0 < b) :
    Yl Try.prog n D X w0 E M (.binOp .quo t x y ty) tt (.int k (k.wrap ((a / b : Nat) : Int))) := fun ac w s d pos af g => by
  simp only [execOp, s.1.ev hx, s.1.ev hy]
  rw [Sem.run_bind, run_div (.inl rfl) (by omega)]
  have h1 : (a : Int).tdiv b = ((a / b : Nat) : Int) := by rw [Int.tdiv_eq_ediv_of_nonneg (by omega)]; simp
  simp only [if_true, h1]
  rfl
theorem top_one {u : UInt8} (h : u.toNat > 127) : Value.int .u8 (IntKind.u8.wrap ((u.toNat / 128 : Nat) : Int)) = bv 1 := by
  have h1 := u.toNat_lt
  have : u.toNat / 128 = 1 := by omega
  rw [this]; rfl
theorem low_u (u : UInt8) : Value.int .u8 ((u.toNat % 128 : Nat) : Int) = bv (UInt8.ofNat (u.toNat % 128)) := by
  unfold bv
  congr 1
  have h1 := u.toNat_lt
  simp; omega
theorem low_v (u : UInt8) : (UInt8.ofNat (u.toNat % 128)).toNat = u.toNat % 128 := by
  have h1 := u.toNat_lt
  simp; omega
end Go.Proofs.Ytefphcpaakhfbaa

/-
  The reference's sums and differences of elements.
-/
import Derived.Test.YtefphcpaakhfbaaL9
import Derived.Test.YtefphcpaakhfbaaSlG
namespace Go.Proofs.Ytefphcpaakhfbaa
open Go Go.Sl Go.RowKit Go.Fp

theorem GB_drop {n : Nat} {D : List Deferred} {X : List Nat} {w0 : World} {Mr : List Blk} {Q : Exit → Act → World → Prop} {E : Env} {M M' M2 M3 : List Blk} {ops : Array Oper} {fuel : Nat} {listed : Array Bool} (hM : Pick M M' M2) (hR : Pick M' Mr M3)
    (h : GB Try.prog n D X w0 Mr Q ops fuel listed E M') : GB Try.prog n D X w0 Mr Q ops fuel listed E M := fun _ a w s => h ⟨_, hR⟩ a w ⟨s.1, s.2.pick hM⟩
theorem NB.pos {x : Nat} {v : Value} {N : List Blk} (h : NB x v N) (h0 : 0 < x) : ∃ (rs : List UInt8) (b c : Nat), v = .slice (some ⟨b, 0, none⟩) rs.length c ∧ N = [⟨b, 5, c * 1, B rs, (0, 0)⟩] ∧ rs.length ≤ c ∧ leN rs = x ∧ NZ rs := by
  obtain ⟨rs, ao, c, rfl, hO, hx, hz⟩ := h
  have h1 : 0 < rs.length := Nat.pos_of_ne_zero fun e => by rw [leN_nil e] at hx; omega
  have hc := hO.cap
  obtain ⟨b, rfl, rfl⟩ := hO.pos h1
  exact ⟨rs, b, c, rfl, rfl, hc, hx, hz⟩
theorem NZ.len32 {rs : List UInt8} {x : Nat} (h : NZ rs) (hx : leN rs = x) (hl : x < w256) : rs.length ≤ 32 := h.len (by rw [p256, hx]; exact hl)
theorem sum_lt (a b : F) : a.val + b.val < w256 := by
  have h1 := a.isLt
  have h2 := b.isLt
  have h3 := P_w
  omega
theorem dif_pos (b : F) : 0 < P - b.val := by have := b.isLt; omega
theorem dif_lt (b : F) : P - b.val < w256 := by
  have h := P_lt
  omega
theorem dsum_lt (a b : F) : a.val + (P - b.val) < w256 := by
  have h1 := a.isLt
  have h3 := P_w
  omega
theorem dsub_val (a b : F) : (a.val + (P - b.val)) % P = (a - b).val := by
  rw [← sub_val, Nat.add_mod a.val ((P - b.val) % P), Nat.mod_mod, ← Nat.add_mod]
theorem eb_round {rs : List UInt8} {a : F} (h : leN rs = a.val) : Value.agg (B (le32 (leN rs))).toArray = .agg (B (eb a)).toArray := by rw [h]; rfl
end Go.Proofs.Ytefphcpaakhfbaa

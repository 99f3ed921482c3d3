/-
  Plain facts on rings of which keys were revoked, one behind another; a slot's value told otherwise.
-/
import Derived.Test.YtkdodpcafamhaaaK6
namespace Go.Sl
theorem GL_perm {P : Program} {n : Nat} {D : List Deferred} {X : List Nat} {w0 : World} {Q : Exit → Act → World → Prop} {E : Env} {M : List Blk} {ops : Array Oper} {l : List Oper} (M' : List Blk) (hp : M.Perm M')
    (h : GL P n D X w0 Q ops l E M') : GL P n D X w0 Q ops l E M := fun a w s => h a w ⟨s.1, s.2.perm hp⟩
theorem G_then_cut {P : Program} {n : Nat} {D : List Deferred} {X : List Nat} {w0 : World} {Q : Exit → Act → World → Prop} {E : Env} {M : List Blk} {ι : Type} (I : ι → Prop) (Ei : ι → Env) (Mi : ι → List Blk) {x y : Code}
    (h1 : G P n D X w0 (Exit.then (Fam n D X w0 I Ei Mi) Q) x E M) (h2 : ∀ i, I i → G P n D X w0 Q y (Ei i) (Mi i)) : G P n D X w0 (Exit.then (y.wp P Q) Q) x E M := fun a w s => by
  refine Code.wp_mono (fun e a w q => ?_) (h1 a w s)
  cases e with
  | normal => obtain ⟨j, hI, st⟩ := q; exact h2 j hI a w st
  | _ => exact q
theorem GL_set {P : Program} {n : Nat} {D : List Deferred} {X : List Nat} {w0 : World} {Q : Exit → Act → World → Prop} {E : Env} {M : List Blk} {ops : Array Oper} {l : List Oper} (d : Nat) {v : Value} (v' : Value) (hg : Env.get E d = some v) (e : v = v')
    (h : GL P n D X w0 Q ops l ((d, v') :: E) M) : GL P n D X w0 Q ops l E M := fun a w s => by
  subst e
  refine h a w ⟨⟨s.1.size, s.1.defers, fun t u hu => ?_⟩, s.2⟩
  simp only [Env.get] at hu
  cases hb : Nat.beq d t with
  | true =>
    rw [hb] at hu
    have : d = t := Nat.eq_of_beq_eq_true hb
    subst this
    simp at hu
    subst hu
    exact s.1.get d _ hg
  | false => rw [hb] at hu; exact s.1.get t u hu
end Go.Sl
namespace Go.Proofs.Ytkdodpcafamhaaa
open Go Go.Sl Go.RowKit

def revK (S : List Int) (k : KeyD) : KeyD := if k.num ∈ S then { k with rev := true } else k
def revL (r : List KeyD) (S : List Int) : List KeyD := r.map (revK S)
theorem revK_num (S : List Int) (k : KeyD) : (revK S k).num = k.num := by unfold revK; split <;> rfl
theorem revL_len (r : List KeyD) (S : List Int) : (revL r S).length = r.length := by simp [revL]
theorem revL_nil (r : List KeyD) : revL r [] = r := by
  have e : revK [] = id := by funext k; simp [revK]
  rw [revL, e, List.map_id]
theorem asc_map {f : KeyD → KeyD} (hf : ∀ k, (f k).num = k.num) : ∀ (r : List KeyD) (l : Int), ascB l (r.map f) = ascB l r
  | [], _ => rfl
  | k :: r, l => by simp only [List.map_cons, ascB, hf, asc_map hf r]
theorem may_revL (r : List KeyD) (S : List Int) : mayB (revL r S) = mayB r := by simp [mayB, revL, asc_map (revK_num S)]
theorem pos_revL (r : List KeyD) (S : List Int) (x : Int) : posD (revL r S) x = posD r x := by
  unfold posD revL
  rw [List.findIdx?_map]
  congr 1
  funext k
  simp [revK_num]
theorem get_revL {r : List KeyD} {S : List Int} {i : Nat} {k : KeyD} (h : r[i]? = some k) : (revL r S)[i]? = some (revK S k) := by simp [revL, h]
theorem revL_none {r : List KeyD} {S : List Int} {y : Int} (h : posD r y = none) : revL r (S ++ [y]) = revL r S := by
  refine List.map_congr_left fun k hk => ?_
  have := posD_not h hk
  simp [revK, this]
theorem revL_some {r : List KeyD} {S : List Int} {y : Int} {i : Nat} {k' : KeyD} (hm : mayB r = true) (hp : posD r y = some i) (hk : (revL r S)[i]? = some k') : (revL r S).set i { k' with rev := true } = revL r (S ++ [y]) := by
  obtain ⟨k, hki, hky⟩ := posD_at hp
  rw [get_revL hki] at hk
  injection hk with hk
  subst hk
  apply List.ext_getElem?
  intro q
  have hil := (List.getElem?_eq_some_iff.1 hki).1
  rw [List.getElem?_set]
  by_cases hq : i = q
  · subst hq
    rw [if_pos rfl, revL_len, if_pos hil, get_revL hki]
    congr 1
    have h1 : k.num ∈ S ++ [y] := by rw [hky]; simp
    unfold revK
    rw [if_pos h1]
    split <;> rfl
  · rw [if_neg hq]
    by_cases hql : q < r.length
    · have hkq := List.getElem?_eq_getElem hql
      rw [get_revL hkq, get_revL hkq]
      have hne : r[q].num ≠ y := by
        rcases Nat.lt_or_gt_of_ne hq with h | h
        · have := asc_lt (may_asc hm) hki hkq h; omega
        · have := asc_lt (may_asc hm) hkq hki h; omega
      simp [revK, hne]
    · rw [List.getElem?_eq_none (by rw [revL_len]; omega), List.getElem?_eq_none (by rw [revL_len]; omega)]
theorem findD_revL {r : List KeyD} {S : List Int} {x : Int} (hm : mayB r = true) : findD (revL r S) x = if x ∈ S then (z32, 190) else findD r x := by
  unfold findD
  rw [may_revL, hm, pos_revL]
  simp only [if_true]
  cases hp : posD r x with
  | none => simp
  | some i =>
    obtain ⟨k, hk, hx⟩ := posD_at hp
    simp only [get_revL hk, hk, revK, hx]
    by_cases hS : x ∈ S
    · simp [hS]
    · simp [hS]
theorem findD_self {r : List KeyD} {i : Nat} {k : KeyD} (hm : mayB r = true) (hk : r[i]? = some k) : findD r k.num = if k.rev then (z32, 190) else (k.bytes, 0) := by
  unfold findD
  rw [hm, posD_some (may_asc hm) hk rfl]
  simp [hk]
theorem findD_out {r : List KeyD} {x : Int} (hm : mayB r = true) (hx : x ∉ r.map (·.num)) : findD r x = (z32, 190) := by
  unfold findD
  rw [hm, posD_none (fun i k hk e => hx (List.mem_map.2 ⟨k, List.mem_of_getElem? hk, e⟩))]
  rfl
theorem find_gone {ao : Option Addr} {c l : Nat} {r : List KeyD} {S : List Int} {x : Int} {w : World} (hs : SlAt w ao (ringL (revL r S))) (hlen : r.length ≤ 1000) (h1 : l = r.length) (hm : mayB r = true) (hx : x ∈ S) :
    FnAt Try.prog 10 [.slice ao l c, .int .i64 x] [] w (Ret fun v N => v = .tuple #[.agg (B z32).toArray, .int .i64 190] ∧ N = []) := by
  have h := find_is' (l := l) (c := c) (x := x) hs (by rw [revL_len]; exact hlen) (by rw [revL_len]; exact h1)
  rw [findD_revL hm, if_pos hx] at h
  exact h
theorem find_kept {ao : Option Addr} {c l : Nat} {r : List KeyD} {S : List Int} {x : Int} {w : World} (hs : SlAt w ao (ringL (revL r S))) (hlen : r.length ≤ 1000) (h1 : l = r.length) (hm : mayB r = true) (hx : x ∉ S) :
    FnAt Try.prog 10 [.slice ao l c, .int .i64 x] [] w (Ret fun v N => v = .tuple #[.agg (B (findD r x).1).toArray, .int .i64 ((findD r x).2 : Nat)] ∧ N = []) := by
  have h := find_is' (l := l) (c := c) (x := x) hs (by rw [revL_len]; exact hlen) (by rw [revL_len]; exact h1)
  rw [findD_revL hm, if_neg hx] at h
  exact h
/-- Revoke on a ring of which keys were revoked. -/
theorem revoke_any {ao : Option Addr} {c l : Nat} {r : List KeyD} {S : List Int} {y : Int} {w : World} (hs : SlAt w ao (ringL (revL r S))) (hlen : r.length ≤ 1000) (h1 : l = r.length) (hm : mayB r = true) :
    FnAt Try.prog 11 [.slice ao l c, .int .i64 y] [] w (Ret fun v N => ∃ e ao' l' c', v = .tuple #[.slice ao' l' c', .int .i64 (e : Int)] ∧
      ((e = 190 ∧ l' = 0 ∧ N = [] ∧ revL r (S ++ [y]) = revL r S) ∨ (e = 0 ∧ l' = r.length ∧ ∃ b, ao' = some ⟨b, 0, none⟩ ∧ N = [⟨b, 39, c' * 34, ringL (revL r (S ++ [y])), (0, 0)⟩]))) := by
  subst h1
  have hl : r.length = (revL r S).length := (revL_len r S).symm
  cases hp : posD r y with
  | none =>
    have h := revoke_no (c := c) (x := y) hs (by rw [revL_len]; exact hlen) (by rw [may_revL]; exact hm) (by rw [pos_revL]; exact hp)
    rw [hl]
    refine h.mono fun e N q => ?_
    cases e with
    | returned v => exact ⟨190, none, 0, 0, q.1, .inl ⟨rfl, rfl, q.2, revL_none hp⟩⟩
    | panicked c => exact q
    | outgrown => exact q
  | some i =>
    obtain ⟨k, hk, hx⟩ := posD_at hp
    have hk' := get_revL (S := S) hk
    have h := revoke_at (c := c) (x := y) hs (by rw [revL_len]; exact hlen) (by rw [may_revL]; exact hm) (by rw [pos_revL]; exact hp) hk'
    rw [revL_some hm hp hk'] at h
    rw [hl]
    refine h.mono fun e N q => ?_
    cases e with
    | returned v =>
      obtain ⟨b, c', q1, q2⟩ := q
      exact ⟨0, _, _, c', q1, .inr ⟨rfl, rfl, b, rfl, q2⟩⟩
    | panicked c => exact q
    | outgrown => exact q
theorem setrev_key (k : KeyD) (b : Bool) : setL (keyL k) (0 + 33) (.bool b) = some (keyL { k with rev := b }) := by
  rw [Nat.zero_add, setL_of (by rw [keyL_len]; omega), keyL_setrev]
theorem take_mem {zs : List Int} {i : Nat} {y x : Int} (h : zs[i]? = some y) : (x ∈ zs.take (i + 1)) ↔ (x ∈ zs.take i ∨ y = x) := by
  rw [List.take_add_one, h]
  simp only [Option.toList_some, List.mem_append, List.mem_singleton]
  exact ⟨fun q => q.imp_right Eq.symm, fun q => q.imp_right Eq.symm⟩
theorem take_mem_k {r : List KeyD} {i : Nat} {k : KeyD} {x : Int} (h : r[i]? = some k) : (x ∈ (r.take (i + 1)).map (·.num)) ↔ (x ∈ (r.take i).map (·.num) ∨ k.num = x) := by
  rw [List.take_add_one, h]
  simp only [Option.toList_some, List.map_append, List.map_cons, List.map_nil, List.mem_append, List.mem_singleton]
  exact ⟨fun q => q.imp_right Eq.symm, fun q => q.imp_right Eq.symm⟩
end Go.Proofs.Ytkdodpcafamhaaa

/-
  Reading a manifest.
-/
import Derived.Test.YthabomkcangegaaM7
namespace Go.Proofs.Ythabomkcangegaa
open Go Go.Sl Go.RowKit

theorem ag53 : TAgg Try.prog 53 1 := ⟨_, Try.underlying53, rfl, by kernel_rfl⟩
theorem el55 : TEl Try.prog 55 1 8 := TEl.mk' (by kernel_rfl)
theorem sc55 : TScal Try.prog 55 := ⟨_, Try.underlying55, rfl, by kernel_rfl⟩
theorem sl56 : TSli Try.prog 56 55 1 := ⟨Try.underlying56, by kernel_rfl⟩
/-- The reader, p bytes on. -/
def RdB (rb : Nat) (bs : List UInt8) (p : Nat) (ra : Option Addr) (rc : Nat) : Blk := ⟨rb, 53, 1, [.slice ra (bs.length - p) rc], (0, 0)⟩
/-- The reader behind n bytes more. -/
def RdN (rb : Nat) (bs : List UInt8) (p n : Nat) (ra : Option Addr) (N : List Blk) : Prop :=
  ∃ ra' rc', (∀ w', SlAt w' ra (B (bs.drop p)) → SlAt w' ra' (B (bs.drop (p + n)))) ∧ bs.length - (p + n) ≤ rc' ∧ adb ra' = adb ra ∧ N = [RdB rb bs (p + n) ra' rc']
def TakeQ (rb : Nat) (bs : List UInt8) (p n : Nat) (ra : Option Addr) (rc : Nat) (e : Ending) (N : List Blk) : Prop :=
  (n ≤ bs.length - p ∧ e = .returned (.slice ra n rc) ∧ RdN rb bs p n ra N) ∨ (bs.length - p < n ∧ e = .panicked [badE])
theorem take_at {rb p n rc : Nat} {bs : List UInt8} {ra : Option Addr} {w : World} (hc : bs.length - p ≤ rc) : FnAt Try.prog 24 [.pointer (some ⟨rb, 0, none⟩), .int .i64 (n : Int)] [RdB rb bs p ra rc] w (TakeQ rb bs p n ra rc) := by
  refine (take_is (tot := 1) (ra := ra) (n := n) hc).mono fun e N q => ?_
  rcases q with ⟨h, he, hN⟩ | ⟨h, he, _⟩
  · refine .inl ⟨h, he, subA ra rc n 1, rc - n, fun w' hs => ?_, by omega, subA_adb _ _ _ _, ?_⟩
    · have := subB' (lo := n) hs (c := rc) (by rw [List.length_drop]; exact hc)
      rwa [List.drop_drop] at this
    · rw [hN, RdB, Nat.sub_sub]
  · exact .inr ⟨h, he⟩
def NumQ (rb : Nat) (bs : List UInt8) (p : Nat) (ra : Option Addr) (e : Ending) (N : List Blk) : Prop :=
  (4 ≤ bs.length - p ∧ e = .returned (.int .i64 (numAt bs p : Nat)) ∧ RdN rb bs p 4 ra N) ∨ (bs.length - p < 4 ∧ e = .panicked [badE])
set_option maxHeartbeats 4000000 in
theorem number_at {rb p rc : Nat} {bs : List UInt8} {ra : Option Addr} {w : World} (hs : SlAt w ra (B (bs.drop p))) (hne : adb ra ≠ rb) (hc : bs.length - p ≤ rc) :
    FnAt Try.prog 25 [.pointer (some ⟨rb, 0, none⟩)] [RdB rb bs p ra rc] w (NumQ rb bs p ra) := by
  have hs4 : SlAt w ra (B ((bs.drop p).take 4)) := by
    have h := hs.take 4
    have e : (B (bs.drop p)).take 4 = B ((bs.drop p).take 4) := by simp [B, List.map_take]
    rwa [e] at h
  have b0 := (bAt bs p).toNat_lt
  have b1 := (bAt bs (p + 1)).toNat_lt
  have b2 := (bAt bs (p + 2)).toNat_lt
  have b3 := (bAt bs (p + 3)).toNat_lt
  refine FnAt.intro Try.func25 rfl Try.ntmps25 rfl _ rfl ?_
  (repeat (with_reducible refine G_seq ?_))
  refine G_region ?_
  refine GL_y rfl rfl (Y_assign rfl) ?_
  refine GL_nil ?_
  (repeat (first | (with_reducible refine R_seq ?_) | (with_reducible refine R_block_normal ?_)))
  (repeat (with_reducible refine G_seq ?_))
  refine G_region ?_
  refine GL_y rfl rfl (Y_move rfl) ?_
  refine GL_callP rfl rfl rfl rfl Try.call24 (by repeat (first | exact .nil | exact Pick.rfl' _ | exact Pick.skip (Pick.rfl' _) | exact Pick.skip (Pick.skip (Pick.rfl' _)) | (apply Pick.cons; focus (first | exact .head | exact (.tail .head) | exact (.tail (.tail .head)) | exact (.tail (.tail (.tail .head))) | exact (.tail (.tail (.tail (.tail .head)))) | exact (.tail (.tail (.tail (.tail (.tail .head))))) | exact (.tail (.tail (.tail (.tail (.tail (.tail .head)))))) | exact (.tail (.tail (.tail (.tail (.tail (.tail (.tail .head))))))) | exact (.tail (.tail (.tail (.tail (.tail (.tail (.tail (.tail .head)))))))) | exact (.tail (.tail (.tail (.tail (.tail (.tail (.tail (.tail (.tail .head))))))))) | exact (.tail (.tail (.tail (.tail (.tail (.tail (.tail (.tail (.tail (.tail .head)))))))))) | exact (.tail (.tail (.tail (.tail (.tail (.tail (.tail (.tail (.tail (.tail (.tail .head))))))))))) | exact (.tail (.tail (.tail (.tail (.tail (.tail (.tail (.tail (.tail (.tail (.tail (.tail .head)))))))))))) | exact (.tail (.tail (.tail (.tail (.tail (.tail (.tail (.tail (.tail (.tail (.tail (.tail (.tail .head))))))))))))))))) (fun w hw => take_at (n := 4) hc) ?_ ?_ ?_
  rotate_left
  · -- it panicked
    rintro c N (⟨_, h, _⟩ | ⟨hb, h⟩)
    · cases h
    injection h with h
    subst h
    (repeat (first | (with_reducible refine R_then_panic ?_) | (with_reducible refine R_block_panic ?_)))
    exact R_panic [] .nil (.inr ⟨hb, rfl⟩)
  · -- outgrown
    rintro N (⟨_, h, _⟩ | ⟨_, h⟩) <;> cases h
  rintro v N (⟨h4, h, ra1, rc1, hs1, hc1, ha1, rfl⟩ | ⟨_, h⟩)
  rotate_left
  · cases h
  injection h with h
  subst h
  have hl4 : 4 = ((bs.drop p).take 4).length := by rw [List.length_take, List.length_drop]; omega
  have hx0 : ((bs.drop p).take 4)[0]? = some (bAt bs p) := by
    rw [List.getElem?_take, if_pos (by decide), List.getElem?_drop]; exact bAt_some (by omega)
  have hx1 : ((bs.drop p).take 4)[1]? = some (bAt bs (p + 1)) := by
    rw [List.getElem?_take, if_pos (by decide), List.getElem?_drop]; exact bAt_some (by omega)
  have hx2 : ((bs.drop p).take 4)[2]? = some (bAt bs (p + 2)) := by
    rw [List.getElem?_take, if_pos (by decide), List.getElem?_drop]; exact bAt_some (by omega)
  have hx3 : ((bs.drop p).take 4)[3]? = some (bAt bs (p + 3)) := by
    rw [List.getElem?_take, if_pos (by decide), List.getElem?_drop]; exact bAt_some (by omega)
  refine GL_y rfl rfl (Y_assign rfl) ?_
  refine GL_nil ?_
  (repeat (first | (with_reducible refine R_seq ?_) | (with_reducible refine R_block_normal ?_)))
  (repeat (with_reducible refine G_seq ?_))
  refine G_draw [] 23 rfl (by kernel_rfl) ?_
  refine GA_y 0 rfl (by kernel_rfl) (by kernel_rfl) (by kernel_rfl) (fun _ _ _ h => h) rfl rfl rfl (Y_move rfl) ?_
  refine GA_y 1 rfl (by kernel_rfl) (by kernel_rfl) (by kernel_rfl) (fun _ _ _ h => h) rfl rfl rfl (Y_bAt (j := 0) hs4 rfl rfl hx0 hl4) ?_
  refine GA_y 2 rfl (by kernel_rfl) (by kernel_rfl) (by kernel_rfl) (fun _ _ _ h => h) rfl rfl rfl (Y_bGet (j := 0) hs4 (by simpa [RdB] using hne) rfl hx0) ?_
  refine GA_y 3 rfl (by kernel_rfl) (by kernel_rfl) (by kernel_rfl) (fun _ _ _ h => h) rfl rfl rfl (Y_ofByte Try.underlying5 Try.underlying3 (by decide) rfl) ?_
  refine GA_y 4 rfl (by kernel_rfl) (by kernel_rfl) (by kernel_rfl) (fun _ _ _ h => h) rfl rfl rfl (Y_move rfl) ?_
  refine GA_y 5 rfl (by kernel_rfl) (by kernel_rfl) (by kernel_rfl) (fun _ _ _ h => h) rfl rfl rfl (Y_bAt (j := 1) hs4 rfl rfl hx1 hl4) ?_
  refine GA_y 6 rfl (by kernel_rfl) (by kernel_rfl) (by kernel_rfl) (fun _ _ _ h => h) rfl rfl rfl (Y_bGet (j := 1) hs4 (by simpa [RdB] using hne) rfl hx1) ?_
  refine GA_y 7 rfl (by kernel_rfl) (by kernel_rfl) (by kernel_rfl) (fun _ _ _ h => h) rfl rfl rfl (Y_ofByte Try.underlying5 Try.underlying3 (by decide) rfl) ?_
  refine GA_y 8 rfl (by kernel_rfl) (by kernel_rfl) (by kernel_rfl) (fun _ _ _ h => h) rfl rfl rfl (Y_shlN (b := 8) rfl rfl (by decide) (by omega)) ?_
  refine GA_y 9 rfl (by kernel_rfl) (by kernel_rfl) (by kernel_rfl) (fun _ _ _ h => h) rfl rfl rfl (Y_orN rfl rfl (by omega) (by omega)) ?_
  refine GA_y 10 rfl (by kernel_rfl) (by kernel_rfl) (by kernel_rfl) (fun _ _ _ h => h) rfl rfl rfl (Y_move rfl) ?_
  refine GA_y 11 rfl (by kernel_rfl) (by kernel_rfl) (by kernel_rfl) (fun _ _ _ h => h) rfl rfl rfl (Y_bAt (j := 2) hs4 rfl rfl hx2 hl4) ?_
  refine GA_y 12 rfl (by kernel_rfl) (by kernel_rfl) (by kernel_rfl) (fun _ _ _ h => h) rfl rfl rfl (Y_bGet (j := 2) hs4 (by simpa [RdB] using hne) rfl hx2) ?_
  refine GA_y 13 rfl (by kernel_rfl) (by kernel_rfl) (by kernel_rfl) (fun _ _ _ h => h) rfl rfl rfl (Y_ofByte Try.underlying5 Try.underlying3 (by decide) rfl) ?_
  refine GA_y 14 rfl (by kernel_rfl) (by kernel_rfl) (by kernel_rfl) (fun _ _ _ h => h) rfl rfl rfl (Y_shlN (b := 16) rfl rfl (by decide) (by omega)) ?_
  refine GA_y 15 rfl (by kernel_rfl) (by kernel_rfl) (by kernel_rfl) (fun _ _ _ h => h) rfl rfl rfl (Y_orN rfl rfl (by omega) (by omega)) ?_
  refine GA_y 16 rfl (by kernel_rfl) (by kernel_rfl) (by kernel_rfl) (fun _ _ _ h => h) rfl rfl rfl (Y_move rfl) ?_
  refine GA_y 17 rfl (by kernel_rfl) (by kernel_rfl) (by kernel_rfl) (fun _ _ _ h => h) rfl rfl rfl (Y_bAt (j := 3) hs4 rfl rfl hx3 hl4) ?_
  refine GA_y 18 rfl (by kernel_rfl) (by kernel_rfl) (by kernel_rfl) (fun _ _ _ h => h) rfl rfl rfl (Y_bGet (j := 3) hs4 (by simpa [RdB] using hne) rfl hx3) ?_
  refine GA_y 19 rfl (by kernel_rfl) (by kernel_rfl) (by kernel_rfl) (fun _ _ _ h => h) rfl rfl rfl (Y_ofByte Try.underlying5 Try.underlying3 (by decide) rfl) ?_
  refine GA_y 20 rfl (by kernel_rfl) (by kernel_rfl) (by kernel_rfl) (fun _ _ _ h => h) rfl rfl rfl (Y_shlN (b := 24) rfl rfl (by decide) (by omega)) ?_
  refine GA_y 21 rfl (by kernel_rfl) (by kernel_rfl) (by kernel_rfl) (fun _ _ _ h => h) rfl rfl rfl (Y_orN rfl rfl (by omega) (by omega)) ?_
  refine GA_y 22 rfl (by kernel_rfl) (by kernel_rfl) (by kernel_rfl) (fun _ _ _ h => h) rfl rfl rfl (Y_assign rfl) ?_
  refine GA_done (by kernel_rfl) ?_
  (repeat (first | (with_reducible refine R_seq ?_) | (with_reducible refine R_block_normal ?_)))
  (repeat (with_reducible refine G_seq ?_))
  refine G_ret ?_
  (repeat (first | (with_reducible refine R_then_ret ?_) | (with_reducible refine R_block_ret ?_)))
  exact R_ret (.tmp rfl .nil) [RdB rb bs (p + 4) ra1 rc1] (by repeat (first | exact .nil | exact Pick.rfl' _ | exact Pick.skip (Pick.rfl' _) | exact Pick.skip (Pick.skip (Pick.rfl' _)) | (apply Pick.cons; focus (first | exact .head | exact (.tail .head) | exact (.tail (.tail .head)) | exact (.tail (.tail (.tail .head))) | exact (.tail (.tail (.tail (.tail .head)))) | exact (.tail (.tail (.tail (.tail (.tail .head))))) | exact (.tail (.tail (.tail (.tail (.tail (.tail .head)))))) | exact (.tail (.tail (.tail (.tail (.tail (.tail (.tail .head))))))) | exact (.tail (.tail (.tail (.tail (.tail (.tail (.tail (.tail .head)))))))) | exact (.tail (.tail (.tail (.tail (.tail (.tail (.tail (.tail (.tail .head))))))))) | exact (.tail (.tail (.tail (.tail (.tail (.tail (.tail (.tail (.tail (.tail .head)))))))))) | exact (.tail (.tail (.tail (.tail (.tail (.tail (.tail (.tail (.tail (.tail (.tail .head))))))))))) | exact (.tail (.tail (.tail (.tail (.tail (.tail (.tail (.tail (.tail (.tail (.tail (.tail .head)))))))))))) | exact (.tail (.tail (.tail (.tail (.tail (.tail (.tail (.tail (.tail (.tail (.tail (.tail (.tail .head))))))))))))))))) (.inl ⟨h4, rfl, ra1, rc1, hs1, hc1, ha1, rfl⟩)
end Go.Proofs.Ythabomkcangegaa

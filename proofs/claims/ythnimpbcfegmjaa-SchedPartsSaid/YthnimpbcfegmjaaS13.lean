/-
  sched.Step, walked by hand.
-/
import Derived.Test.YthnimpbcfegmjaaS11
import Derived.Test.YthnimpbcfegmjaaS12
import Derived.Test.YthnimpbcfegmjaaPl0
namespace Go.Proofs.Ythnimpbcfegmjaa.Own
open Go.RowKit Go.Proofs.YthnimpbcfegmjaaW.PrintWords Go.Proofs.YthnimpbcfegmjaaW.PrintLast Go.Proofs.YthnimpbcfegmjaaW.PrintMore Go.Proofs.Ythnimpbcfegmjaa.P Go.Proofs.Ythnimpbcfegmjaa.Model
set_option linter.unusedVariables false
set_option linter.unusedSimpArgs false

theorem C_nil {α : Type} (d : Kd α) (w : World) : Kd.C d w none 0 [] := ⟨rfl, by simp, fun h => absurd h (Nat.lt_irrefl 0)⟩
theorem SysC_none (w : World) : SysC w Syst.none Ad.none := ⟨C_nil _ w, Nat.le_refl _, C_nil _ w, Nat.le_refl _, C_nil _ w, Nat.le_refl _, C_nil _ w, Nat.le_refl _, C_nil _ w, Nat.le_refl _, C_nil _ w, Nat.le_refl _⟩
theorem six_below {w W : World} (hb : Below w.heap.size w W) (v0 v1 v2 v3 v4 v5 : Value) : Below w.heap.size w ((((((W.setCell ⟨w.heap.size + 1, 0, none⟩ v0).setCell ⟨w.heap.size + 1, 1, none⟩ v1).setCell ⟨w.heap.size + 1, 2, none⟩ v2).setCell ⟨w.heap.size + 1, 3, none⟩ v3).setCell ⟨w.heap.size + 1, 4, none⟩ v4).setCell ⟨w.heap.size + 1, 5, none⟩ v5) := below_put (g := w.heap.size + 1) (k := 5) (below_put (g := w.heap.size + 1) (k := 4) (below_put (g := w.heap.size + 1) (k := 3) (below_put (g := w.heap.size + 1) (k := 2) (below_put (g := w.heap.size + 1) (k := 1) (below_put (g := w.heap.size + 1) (k := 0) (hb) (Nat.le_succ _) _) (Nat.le_succ _) _) (Nat.le_succ _) _) (Nat.le_succ _) _) (Nat.le_succ _) _) (Nat.le_succ _) _
theorem step_end {P : Nat → Bool} {w W : World} {b : Nat} {s : Syst} {p : Ad} {us : List Value} {v0 v1 v2 v3 v4 v5 : Value} (h : FinS (hid P w) b W s p us) (hlt : w.heap.size + 1 < b) (hP : ∀ k, P k = true → k < b) (hb : Below w.heap.size w W) :
    SysC (hid P ((((((W.setCell ⟨w.heap.size + 1, 0, none⟩ v0).setCell ⟨w.heap.size + 1, 1, none⟩ v1).setCell ⟨w.heap.size + 1, 2, none⟩ v2).setCell ⟨w.heap.size + 1, 3, none⟩ v3).setCell ⟨w.heap.size + 1, 4, none⟩ v4).setCell ⟨w.heap.size + 1, 5, none⟩ v5)) s p ∧ Below w.heap.size w ((((((W.setCell ⟨w.heap.size + 1, 0, none⟩ v0).setCell ⟨w.heap.size + 1, 1, none⟩ v1).setCell ⟨w.heap.size + 1, 2, none⟩ v2).setCell ⟨w.heap.size + 1, 3, none⟩ v3).setCell ⟨w.heap.size + 1, 4, none⟩ v4).setCell ⟨w.heap.size + 1, 5, none⟩ v5) := by
  have hB := six_below hb v0 v1 v2 v3 v4 v5
  exact ⟨FinS.hid ((((((h.box (q := ⟨w.heap.size + 1, 0, none⟩) hlt (by rw [hid_size]; exact Nat.le_succ _) _).box (q := ⟨w.heap.size + 1, 1, none⟩) hlt (by rw [hid_size]; exact Nat.le_succ _) _).box (q := ⟨w.heap.size + 1, 2, none⟩) hlt (by rw [hid_size]; exact Nat.le_succ _) _).box (q := ⟨w.heap.size + 1, 3, none⟩) hlt (by rw [hid_size]; exact Nat.le_succ _) _).box (q := ⟨w.heap.size + 1, 4, none⟩) hlt (by rw [hid_size]; exact Nat.le_succ _) _).box (q := ⟨w.heap.size + 1, 5, none⟩) hlt (by rw [hid_size]; exact Nat.le_succ _) _) hP hB, hB⟩
/-- Step, by number; and the error's number. -/
def xStep (s : Syst) (t : Int) : Syst × Int :=
  if rightB s = false then (Syst.none, 1) else if inB t 0 ((s.th.length : Int) - 1) = false then (Syst.none, 3) else if canB s t.toNat = false then (Syst.none, 11) else (stepN s t.toNat, 0)
def XStepP (P : Nat → Bool) (r : Syst × Int) (w : World) (e : Ending) (w' : World) : Prop := ∃ p, e = .returned (.tuple #[.agg (sysA r.1 p), .int .i64 r.2]) ∧ SysC (hid P w') r.1 p ∧ Below w.heap.size w w'
set_option maxRecDepth 100000 in
set_option maxHeartbeats 8000000 in
theorem xStep_calls (P : Nat → Bool) (s : Syst) (p : Ad) (t : Int) (w : World) (hC0 : SysC (hid P w) s p) (hP : ∀ k, P k = true → k < w.heap.size) (hbd : Bd s) : Calls Try.prog 24 #[.agg (sysA s p), .int .i64 t] w (XStepP P (xStep s t) w) := by
  have hC := hC0.up (hid_up P w)
  have HP := Aside0.mk hP
  have hB1 : Below w.heap.size w (w.alloc (.cells (sysA s p) 26)) := (Below.refl _ _).alloc (Nat.le_refl _) _
  have hB2 := hB1.alloc hB1.size (.cells #[.slice none 0 0, .slice none 0 0, .slice none 0 0, .slice none 0 0, .slice none 0 0, .slice none 0 0] 26)
  have HB := Aside0.mk hB2
  have HR := Aside0.mk (right_calls s p _ (hC.below hB2) hbd)
  have HCc : Aside0 (∀ W, Below w.heap.size w W → rightB s = true → inB t 0 ((s.th.length : Int) - 1) = true → Calls Try.prog 52 #[.agg (sysA s p), .int .i64 t] W (Ret (canB s t.toNat) W)) := ⟨fun W h hr hi => by
    simp only [inB, Bool.and_eq_true, decide_eq_true_eq] at hi
    have e : t = ((t.toNat : Nat) : Int) := by omega
    rw [e]
    simp only [Int.toNat_natCast]
    exact can_calls s p t.toNat W (hC.below h) (right_shp hr) (by omega)⟩
  have HG : Aside0 (((w.alloc (.cells (sysA s p) 26)).alloc (.cells #[.slice none 0 0, .slice none 0 0, .slice none 0 0, .slice none 0 0, .slice none 0 0, .slice none 0 0] 26)).heap[w.heap.size]? = some (.cells (sysA s p) 26 (0, 0))) := ⟨blk_alloc (blk_new w _) _⟩
  have HZ : Aside0 (((w.alloc (.cells (sysA s p) 26)).alloc (.cells #[.slice none 0 0, .slice none 0 0, .slice none 0 0, .slice none 0 0, .slice none 0 0, .slice none 0 0] 26)).heap[w.heap.size + 1]? = some (.cells #[.slice none 0 0, .slice none 0 0, .slice none 0 0, .slice none 0 0, .slice none 0 0, .slice none 0 0] 26 (0, 0))) := ⟨by
    have h1 := blk_new (w.alloc (.cells (sysA s p) 26)) (.cells #[.slice none 0 0, .slice none 0 0, .slice none 0 0, .slice none 0 0, .slice none 0 0, .slice none 0 0] 26)
    have hsz : (w.alloc (.cells (sysA s p) 26)).heap.size = w.heap.size + 1 := by simp
    rw [hsz] at h1
    exact h1⟩
  have HN8 : rightB s = true → s.th.length ≤ 8 := fun h => (right_shp h).n
  have HN := Aside0.mk HN8
  have HST0 : Aside0 (rightB s = true → inB t 0 ((s.th.length : Int) - 1) = true → canB s t.toNat = true → ∀ W, Below w.heap.size w W → Calls Try.prog 33 #[.agg (sysA s p), .int .i64 t] W (StepP (hid P w) (stepN s t.toNat) W)) := ⟨fun hr hi hc W h => by
    simp only [inB, Bool.and_eq_true, decide_eq_true_eq] at hi
    have e : t = ((t.toNat : Nat) : Int) := by omega
    unfold canB at hc
    unfold stepN
    split at hc
    · rename_i i hi2
      rw [hi2]
      have h1 := step_calls (hid P w) s p t.toNat i W hC0 ((hid_up P w).trans (up_below h)) (right_shp hr) (by omega) hi2 hc
      rw [← e] at h1
      exact h1
    · cases hc⟩
  have hl100 := hbd.n0
  clear hC0 hP
  obtain ⟨a0, c0, a1, c1, a2, c2, a3, c3, a4, c4, a5, c5⟩ := p
  unfold sysA at *
  dsimp only at *
  clear hB1 hB2 hC hbd HN8
  cases hr : rightB s with
  | false =>
    have e : xStep s t = (Syst.none, 1) := by unfold xStep; rw [hr]; rfl
    rw [e]
    have HRR := Aside0.mk hr
    clear hr e
    as_aux_lemma =>
    go_enter Try.func24, Try.ntmps24
    go_wp2_with (go_at_call 20; refine HR.out.mono ?_; rintro e w2 ⟨rfl, hb⟩; rw [HRR.out]; replace HG := Aside0.mk (blk_below HG.out hb); replace HZ := Aside0.mk (blk_below HZ.out hb); replace HB := Aside0.mk (HB.out.trans (hb.mono HB.out.size)); clear hb; have q0 := blk_cell HG.out 0; have z0 := blk_cell HZ.out 0; have y0 := blk_frozen HZ.out 0; have q1 := blk_cell HG.out 1; have z1 := blk_cell HZ.out 1; have y1 := blk_frozen HZ.out 1; have q2 := blk_cell HG.out 2; have z2 := blk_cell HZ.out 2; have y2 := blk_frozen HZ.out 2; have q3 := blk_cell HG.out 3; have z3 := blk_cell HZ.out 3; have y3 := blk_frozen HZ.out 3; have q4 := blk_cell HG.out 4; have z4 := blk_cell HZ.out 4; have y4 := blk_frozen HZ.out 4; have q5 := blk_cell HG.out 5; have z5 := blk_cell HZ.out 5; have y5 := blk_frozen HZ.out 5)
    refine bodyPost_ret (results_ct rfl _ _ (w.heap.size + 1) 26 _ (0, 0) _ rfl (six_put _ _ _ _ _ _ HZ.out) Try.underlying26 rfl (by kernel_rfl)) rfl ?_
    exact ⟨Ad.none, rfl, SysC_none _, below_put (g := w.heap.size + 1) (k := 5) (below_put (g := w.heap.size + 1) (k := 4) (below_put (g := w.heap.size + 1) (k := 3) (below_put (g := w.heap.size + 1) (k := 2) (below_put (g := w.heap.size + 1) (k := 1) (below_put (g := w.heap.size + 1) (k := 0) (HB.out) (Nat.le_succ _) _) (Nat.le_succ _) _) (Nat.le_succ _) _) (Nat.le_succ _) _) (Nat.le_succ _) _) (Nat.le_succ _) _⟩
  | true =>
    have HRR := Aside0.mk hr
    cases hin : inB t 0 ((s.th.length : Int) - 1) with
    | false =>
      have e : xStep s t = (Syst.none, 3) := by unfold xStep; rw [hr, hin]; rfl
      rw [e]
      have HIN := Aside0.mk hin
      clear hr e hin
      as_aux_lemma =>
      go_enter Try.func24, Try.ntmps24
      go_wp2_with (first | (go_at_call 20; refine HR.out.mono ?_; rintro e w2 ⟨rfl, hb⟩; rw [HRR.out]; replace HG := Aside0.mk (blk_below HG.out hb); replace HZ := Aside0.mk (blk_below HZ.out hb); replace HB := Aside0.mk (HB.out.trans (hb.mono HB.out.size)); clear hb; have q0 := blk_cell HG.out 0; have z0 := blk_cell HZ.out 0; have y0 := blk_frozen HZ.out 0; have q1 := blk_cell HG.out 1; have z1 := blk_cell HZ.out 1; have y1 := blk_frozen HZ.out 1; have q2 := blk_cell HG.out 2; have z2 := blk_cell HZ.out 2; have y2 := blk_frozen HZ.out 2; have q3 := blk_cell HG.out 3; have z3 := blk_cell HZ.out 3; have y3 := blk_frozen HZ.out 3; have q4 := blk_cell HG.out 4; have z4 := blk_cell HZ.out 4; have y4 := blk_frozen HZ.out 4; have q5 := blk_cell HG.out 5; have z5 := blk_cell HZ.out 5; have y5 := blk_frozen HZ.out 5) | (go_at_call 38; refine (in_calls _ _ _ _).mono ?_; rintro e w' ⟨rfl, rfl⟩; rw [HIN.out]))
      refine bodyPost_ret (results_ct rfl _ _ (w.heap.size + 1) 26 _ (0, 0) _ rfl (six_put _ _ _ _ _ _ HZ.out) Try.underlying26 rfl (by kernel_rfl)) rfl ?_
      exact ⟨Ad.none, rfl, SysC_none _, below_put (g := w.heap.size + 1) (k := 5) (below_put (g := w.heap.size + 1) (k := 4) (below_put (g := w.heap.size + 1) (k := 3) (below_put (g := w.heap.size + 1) (k := 2) (below_put (g := w.heap.size + 1) (k := 1) (below_put (g := w.heap.size + 1) (k := 0) (HB.out) (Nat.le_succ _) _) (Nat.le_succ _) _) (Nat.le_succ _) _) (Nat.le_succ _) _) (Nat.le_succ _) _) (Nat.le_succ _) _⟩
    | true =>
      have HIN := Aside0.mk hin
      cases hcn : canB s t.toNat with
      | false =>
        have e : xStep s t = (Syst.none, 11) := by unfold xStep; rw [hr, hin, hcn]; rfl
        rw [e]
        have HCN := Aside0.mk hcn
        clear hr e hin hcn
        as_aux_lemma =>
        go_enter Try.func24, Try.ntmps24
        go_wp2_with (first | (go_at_call 20; refine HR.out.mono ?_; rintro e w2 ⟨rfl, hb⟩; rw [HRR.out]; replace HG := Aside0.mk (blk_below HG.out hb); replace HZ := Aside0.mk (blk_below HZ.out hb); replace HB := Aside0.mk (HB.out.trans (hb.mono HB.out.size)); clear hb; have q0 := blk_cell HG.out 0; have z0 := blk_cell HZ.out 0; have y0 := blk_frozen HZ.out 0; have q1 := blk_cell HG.out 1; have z1 := blk_cell HZ.out 1; have y1 := blk_frozen HZ.out 1; have q2 := blk_cell HG.out 2; have z2 := blk_cell HZ.out 2; have y2 := blk_frozen HZ.out 2; have q3 := blk_cell HG.out 3; have z3 := blk_cell HZ.out 3; have y3 := blk_frozen HZ.out 3; have q4 := blk_cell HG.out 4; have z4 := blk_cell HZ.out 4; have y4 := blk_frozen HZ.out 4; have q5 := blk_cell HG.out 5; have z5 := blk_cell HZ.out 5; have y5 := blk_frozen HZ.out 5) | (go_at_call 38; refine (in_calls _ _ _ _).mono ?_; rintro e w' ⟨rfl, rfl⟩; rw [HIN.out]) | (go_at_call 52; refine (HCc.out _ HB.out HRR.out HIN.out).mono ?_; rintro e w3 ⟨rfl, hb⟩; rw [HCN.out]; replace HG := Aside0.mk (blk_below HG.out hb); replace HZ := Aside0.mk (blk_below HZ.out hb); replace HB := Aside0.mk (HB.out.trans (hb.mono HB.out.size)); clear hb; replace q0 := blk_cell HG.out 0; replace z0 := blk_cell HZ.out 0; replace y0 := blk_frozen HZ.out 0; replace q1 := blk_cell HG.out 1; replace z1 := blk_cell HZ.out 1; replace y1 := blk_frozen HZ.out 1; replace q2 := blk_cell HG.out 2; replace z2 := blk_cell HZ.out 2; replace y2 := blk_frozen HZ.out 2; replace q3 := blk_cell HG.out 3; replace z3 := blk_cell HZ.out 3; replace y3 := blk_frozen HZ.out 3; replace q4 := blk_cell HG.out 4; replace z4 := blk_cell HZ.out 4; replace y4 := blk_frozen HZ.out 4; replace q5 := blk_cell HG.out 5; replace z5 := blk_cell HZ.out 5; replace y5 := blk_frozen HZ.out 5))
        refine bodyPost_ret (results_ct rfl _ _ (w.heap.size + 1) 26 _ (0, 0) _ rfl (six_put _ _ _ _ _ _ HZ.out) Try.underlying26 rfl (by kernel_rfl)) rfl ?_
        exact ⟨Ad.none, rfl, SysC_none _, below_put (g := w.heap.size + 1) (k := 5) (below_put (g := w.heap.size + 1) (k := 4) (below_put (g := w.heap.size + 1) (k := 3) (below_put (g := w.heap.size + 1) (k := 2) (below_put (g := w.heap.size + 1) (k := 1) (below_put (g := w.heap.size + 1) (k := 0) (HB.out) (Nat.le_succ _) _) (Nat.le_succ _) _) (Nat.le_succ _) _) (Nat.le_succ _) _) (Nat.le_succ _) _) (Nat.le_succ _) _⟩
      | true =>
        have e : xStep s t = (stepN s t.toNat, 0) := by unfold xStep; rw [hr, hin, hcn]; rfl
        rw [e]
        have HCN := Aside0.mk hcn
        have HST := Aside0.mk (HST0.out hr hin hcn)
        clear hr e hin hcn
        as_aux_lemma =>
        go_enter Try.func24, Try.ntmps24
        go_wp2_with (first | (go_at_call 20; refine HR.out.mono ?_; rintro e w2 ⟨rfl, hb⟩; rw [HRR.out]; replace HG := Aside0.mk (blk_below HG.out hb); replace HZ := Aside0.mk (blk_below HZ.out hb); replace HB := Aside0.mk (HB.out.trans (hb.mono HB.out.size)); clear hb; have q0 := blk_cell HG.out 0; have z0 := blk_cell HZ.out 0; have y0 := blk_frozen HZ.out 0; have q1 := blk_cell HG.out 1; have z1 := blk_cell HZ.out 1; have y1 := blk_frozen HZ.out 1; have q2 := blk_cell HG.out 2; have z2 := blk_cell HZ.out 2; have y2 := blk_frozen HZ.out 2; have q3 := blk_cell HG.out 3; have z3 := blk_cell HZ.out 3; have y3 := blk_frozen HZ.out 3; have q4 := blk_cell HG.out 4; have z4 := blk_cell HZ.out 4; have y4 := blk_frozen HZ.out 4; have q5 := blk_cell HG.out 5; have z5 := blk_cell HZ.out 5; have y5 := blk_frozen HZ.out 5) | (go_at_call 38; refine (in_calls _ _ _ _).mono ?_; rintro e w' ⟨rfl, rfl⟩; rw [HIN.out]) | (go_at_call 52; refine (HCc.out _ HB.out HRR.out HIN.out).mono ?_; rintro e w3 ⟨rfl, hb⟩; rw [HCN.out]; replace HG := Aside0.mk (blk_below HG.out hb); replace HZ := Aside0.mk (blk_below HZ.out hb); replace HB := Aside0.mk (HB.out.trans (hb.mono HB.out.size)); clear hb; replace q0 := blk_cell HG.out 0; replace z0 := blk_cell HZ.out 0; replace y0 := blk_frozen HZ.out 0; replace q1 := blk_cell HG.out 1; replace z1 := blk_cell HZ.out 1; replace y1 := blk_frozen HZ.out 1; replace q2 := blk_cell HG.out 2; replace z2 := blk_cell HZ.out 2; replace y2 := blk_frozen HZ.out 2; replace q3 := blk_cell HG.out 3; replace z3 := blk_cell HZ.out 3; replace y3 := blk_frozen HZ.out 3; replace q4 := blk_cell HG.out 4; replace z4 := blk_cell HZ.out 4; replace y4 := blk_frozen HZ.out 4; replace q5 := blk_cell HG.out 5; replace z5 := blk_cell HZ.out 5; replace y5 := blk_frozen HZ.out 5) | (go_at_call 33; have HLT := Aside0.mk (blk_lt HZ.out); refine (HST.out _ HB.out).mono ?_; rintro e w4 ⟨p4, b4, us4, rfl, hfin, hb4, hb⟩; have HFIN := Aside0.mk hfin; replace HLT := Aside0.mk (Nat.lt_of_lt_of_le HLT.out hb4); have HB4 := Aside0.mk (Nat.le_trans HB.out.size hb4); clear hfin hb4; dsimp only [sysA]; replace HG := Aside0.mk (blk_below HG.out hb); replace HZ := Aside0.mk (blk_below HZ.out hb); replace HB := Aside0.mk (HB.out.trans (hb.mono HB.out.size)); clear hb; replace q0 := blk_cell HG.out 0; replace z0 := blk_cell HZ.out 0; replace y0 := blk_frozen HZ.out 0; replace q1 := blk_cell HG.out 1; replace z1 := blk_cell HZ.out 1; replace y1 := blk_frozen HZ.out 1; replace q2 := blk_cell HG.out 2; replace z2 := blk_cell HZ.out 2; replace y2 := blk_frozen HZ.out 2; replace q3 := blk_cell HG.out 3; replace z3 := blk_cell HZ.out 3; replace y3 := blk_frozen HZ.out 3; replace q4 := blk_cell HG.out 4; replace z4 := blk_cell HZ.out 4; replace y4 := blk_frozen HZ.out 4; replace q5 := blk_cell HG.out 5; replace z5 := blk_cell HZ.out 5; replace y5 := blk_frozen HZ.out 5))
        refine bodyPost_ret (results_ct rfl _ _ (w.heap.size + 1) 26 _ (0, 0) _ rfl (six_put _ _ _ _ _ _ HZ.out) Try.underlying26 rfl (by kernel_rfl)) rfl ?_
        exact ⟨p4, rfl, step_end HFIN.out HLT.out (fun k hk => Nat.lt_of_lt_of_le (HP.out k hk) HB4.out) HB.out⟩
end Go.Proofs.Ythnimpbcfegmjaa.Own

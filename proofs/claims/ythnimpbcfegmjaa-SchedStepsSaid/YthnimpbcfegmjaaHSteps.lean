/-
  The law SchedSteps, walked by hand: the threads that can go on, any system behind any thread's step, and whether all are at their ends, are as the document says, or refused.
-/
import Derived.Test.YthnimpbcfegmjaaH0
import Derived.Test.YthnimpbcfegmjaaS24
import Derived.Test.YthnimpbcfegmjaaS25
namespace Go.Proofs.Ythnimpbcfegmjaa.Own
open Go.RowKit Go.Proofs.YthnimpbcfegmjaaW.PrintWords Go.Proofs.YthnimpbcfegmjaaW.PrintLast Go.Proofs.YthnimpbcfegmjaaW.PrintMore Go.Proofs.Ythnimpbcfegmjaa.P Go.Proofs.Ythnimpbcfegmjaa.Model
set_option linter.unusedVariables false
set_option linter.unusedSimpArgs false
attribute [local go_sem] max2_int min2_int max_two min_two max_three min_three max_four min_four

theorem refDoneC (s : Syst) (p : Ad) (W : World) (h : SysC W s p) (hS : Shp s) : Calls Try.prog 26 #[.agg (sysA s p)] W (fun e w' => e = .returned (.bool (doneB s)) ∧ Below W.heap.size W w') :=
  downpourref20_Done.calls 100 p.a0 p.c0 s.th p.a1 p.c1 s.at_ p.a2 p.c2 s.su p.a3 p.c3 s.lo p.a4 p.c4 s.ce p.a5 p.c5 s.ch (doneB s) W h.r0 h.h0 h.r1 h.h1 h.r2 h.h2 h.r3 h.h3 h.r4 h.h4 h.r5 h.h5 (done_f s hS)
theorem refCanC (s : Syst) (p : Ad) (t : Nat) (v : Bool) (W : World) (h : SysC W s p) (hS : Shp s) (ht : t < s.th.length) (hv : canB s t = v) : Calls Try.prog 27 #[.agg (sysA s p), .int .i64 (t : Int)] W (fun e w' => e = .returned (.bool v) ∧ Below W.heap.size W w') :=
  downpourref20_Can.calls p.a0 p.c0 s.th p.a1 p.c1 s.at_ p.a2 p.c2 s.su p.a3 p.c3 s.lo p.a4 p.c4 s.ce p.a5 p.c5 s.ch (t : Int) v W h.r0 h.h0 h.r1 h.h1 h.r2 h.h2 h.r3 h.h3 h.r4 h.h4 h.r5 h.h5 (by rw [← hv]; exact can_f s hS t ht)
theorem en_le8 {s : Syst} (h : Shp s) : (enL s).length ≤ 900 := by
  unfold enL
  rw [List.length_map]
  have h1 := List.length_filter_le (canB s) (List.range s.th.length)
  have h2 := h.n
  rw [List.length_range] at h1
  omega
set_option maxRecDepth 100000 in
set_option maxHeartbeats 16000000 in
theorem stepsLaw_calls (s : Syst) (p : Ad) (t : Int) (w : World) (hC : SysC w s p) : Calls Try.prog 6 #[.agg (sysA s p), .int .i64 t] w (fun e w' => e = .returned (.bool true) ∧ Below w.heap.size w w') := by
  have HB : Aside0 (Below w.heap.size w (w.alloc (.cells (sysA s p) 26))) := ⟨(Below.refl _ _).alloc (Nat.le_refl _) _⟩
  have HG := Aside0.mk (blk_new w (.cells (sysA s p) 26))
  have HS0 : Aside0 (SysC (hid (fun k => k == w.heap.size) (w.alloc (.cells (sysA s p) 26))) s p) := ⟨hC.up (up_new HB.out (fun k hk => by have := beq_iff_eq.1 hk; omega))⟩
  obtain ⟨gA, hgA⟩ : ∃ gA, w.heap.size = gA := ⟨_, rfl⟩
  have HGA : Aside0 (w.heap.size ≤ gA) := ⟨Nat.le_of_eq hgA⟩
  have HGE := Aside0.mk hgA
  clear hC hgA
  unfold sysA at *
  obtain ⟨q0, q1, q2, q3, q4, q5⟩ := six_cells HG.out
  obtain ⟨x0, x1, x2, x3, x4, x5⟩ := six_frozen HG.out
  go_enter Try.func6, Try.ntmps6
  go_wp2_with (first
    | (go_at_call 8; refine (few_calls (fun k => k == w.heap.size) s p _ HS0.out (fun k hk => by have := beq_iff_eq.1 hk; subst this; exact blk_lt HG.out)).mono ?_; rintro e w3 ⟨p1, rfl, hs, hb⟩; replace HG := Aside0.mk (blk_below HG.out hb); replace HB := Aside0.mk (HB.out.trans (hb.mono HB.out.size)); have HS1 := Aside0.mk hs; clear hs hb HS0; obtain ⟨S, hS⟩ : ∃ S, fewS s = S := ⟨_, rfl⟩; have HSD : Aside0 (Bd S) := ⟨by rw [← hS]; exact few_bd s⟩; rw [hS] at HS1 ⊢; clear hS; unfold sysA; clear q0 q1 q2 q3 q4 q5 x0 x1 x2 x3 x4 x5; obtain ⟨q0, q1, q2, q3, q4, q5⟩ := six_cells HG.out; obtain ⟨x0, x1, x2, x3, x4, x5⟩ := six_frozen HG.out)
    | (refine hold_store rfl ?_))
  rw [HGE.out] at HG HS1 q0 q1 q2 q3 q4 q5 x0 x1 x2 x3 x4 x5 ⊢
  refine ⟨store_list (w1 := ((((((w3.setCell ⟨gA, 0, none⟩ (.slice p1.a0 S.th.length p1.c0)).setCell ⟨gA, 1, none⟩ (.slice p1.a1 S.at_.length p1.c1)).setCell ⟨gA, 2, none⟩ (.slice p1.a2 S.su.length p1.c2)).setCell ⟨gA, 3, none⟩ (.slice p1.a3 S.lo.length p1.c3)).setCell ⟨gA, 4, none⟩ (.slice p1.a4 S.ce.length p1.c4)).setCell ⟨gA, 5, none⟩ (.slice p1.a5 S.ch.length p1.c5))) rfl rfl (by go_simp) ?_⟩
  clear q0 q1 q2 q3 q4 q5 x0 x1 x2 x3 x4 x5
  replace HG := Aside0.mk (six_put (.slice p1.a0 S.th.length p1.c0) (.slice p1.a1 S.at_.length p1.c1) (.slice p1.a2 S.su.length p1.c2) (.slice p1.a3 S.lo.length p1.c3) (.slice p1.a4 S.ce.length p1.c4) (.slice p1.a5 S.ch.length p1.c5) HG.out)
  replace HS1 := Aside0.mk ((HS1.out.up (hid_six (g := gA) (by simp) (v0 := (.slice p1.a0 S.th.length p1.c0)) (v1 := (.slice p1.a1 S.at_.length p1.c1)) (v2 := (.slice p1.a2 S.su.length p1.c2)) (v3 := (.slice p1.a3 S.lo.length p1.c3)) (v4 := (.slice p1.a4 S.ce.length p1.c4)) (v5 := (.slice p1.a5 S.ch.length p1.c5)))).up (hid_up _ _))
  replace HB := Aside0.mk (below_six (g := gA) HB.out HGA.out (v0 := (.slice p1.a0 S.th.length p1.c0)) (v1 := (.slice p1.a1 S.at_.length p1.c1)) (v2 := (.slice p1.a2 S.su.length p1.c2)) (v3 := (.slice p1.a3 S.lo.length p1.c3)) (v4 := (.slice p1.a4 S.ce.length p1.c4)) (v5 := (.slice p1.a5 S.ch.length p1.c5)))
  generalize ((((((w3.setCell ⟨gA, 0, none⟩ (.slice p1.a0 S.th.length p1.c0)).setCell ⟨gA, 1, none⟩ (.slice p1.a1 S.at_.length p1.c1)).setCell ⟨gA, 2, none⟩ (.slice p1.a2 S.su.length p1.c2)).setCell ⟨gA, 3, none⟩ (.slice p1.a3 S.lo.length p1.c3)).setCell ⟨gA, 4, none⟩ (.slice p1.a4 S.ce.length p1.c4)).setCell ⟨gA, 5, none⟩ (.slice p1.a5 S.ch.length p1.c5)) = w4 at *
  obtain ⟨q0, q1, q2, q3, q4, q5⟩ := six_cells HG.out
  obtain ⟨EL, hEL⟩ : ∃ EL, (if rightB S = true then enL S else []) = EL := ⟨_, rfl⟩
  obtain ⟨ce, hce⟩ : ∃ ce, eno (rightB S) = ce := ⟨_, rfl⟩
  obtain ⟨dn, hdn⟩ : ∃ dn, (rightB S && doneB S) = dn := ⟨_, rfl⟩
  obtain ⟨⟨N, cN⟩, hX⟩ : ∃ r, xStep S t = r := ⟨_, rfl⟩
  have HE1 := Aside0.mk hEL
  have HE2 := Aside0.mk hce
  have HE3 := Aside0.mk hdn
  have HE4 := Aside0.mk hX
  clear hEL hce hdn hX
  go_wp2_with (first
    | (go_at_call 23; refine (xEnabled_calls S p1 _ HS1.out HSD.out).mono ?_; rintro e w5 ⟨v, rfl, hrow, hb⟩; rw [HE1.out] at hrow; rw [HE2.out]; obtain ⟨B, dB, rfl⟩ := row_slice hrow; have HWD := Aside0.mk (rowI_CI hrow).2; have HWR := Aside0.mk (rowI_CI hrow).1; replace HG := Aside0.mk (blk_below HG.out hb); replace HS1 := Aside0.mk (HS1.out.below hb); replace HB := Aside0.mk (HB.out.trans (hb.mono HB.out.size)); clear q0 q1 q2 q3 q4 q5 hb hrow; obtain ⟨q0, q1, q2, q3, q4, q5⟩ := six_cells HG.out)
    | (go_at_call 24; refine (xStep_calls (fun _ => false) S p1 t _ (HS1.out.up (hid_none _)) (fun k hk => by cases hk) HSD.out).mono ?_; rintro e w6 ⟨p7, rfl, hs, hb⟩; rw [HE4.out] at hs ⊢; dsimp only at hs ⊢; unfold sysA; have hal : Below w6.heap.size w6 (w6.alloc (.cells #[.slice p7.a0 N.th.length p7.c0, .slice p7.a1 N.at_.length p7.c1, .slice p7.a2 N.su.length p7.c2, .slice p7.a3 N.lo.length p7.c3, .slice p7.a4 N.ce.length p7.c4, .slice p7.a5 N.ch.length p7.c5] 26)) := (Below.refl _ _).alloc (Nat.le_refl _) _; have H7 := Aside0.mk (blk_new w6 (.cells #[.slice p7.a0 N.th.length p7.c0, .slice p7.a1 N.at_.length p7.c1, .slice p7.a2 N.su.length p7.c2, .slice p7.a3 N.lo.length p7.c3, .slice p7.a4 N.ce.length p7.c4, .slice p7.a5 N.ch.length p7.c5] 26)); have HN7 := Aside0.mk ((hs.up (hid_up _ _)).below hal); replace HG := Aside0.mk (blk_below HG.out hb); replace HS1 := Aside0.mk (HS1.out.below hb); replace HB := Aside0.mk (HB.out.trans (hb.mono HB.out.size)); replace HWR := Aside0.mk (Kd.C_below HWR.out hb); replace hb := hal; replace HG := Aside0.mk (blk_below HG.out hb); replace HS1 := Aside0.mk (HS1.out.below hb); replace HB := Aside0.mk (HB.out.trans (hb.mono HB.out.size)); replace HWR := Aside0.mk (Kd.C_below HWR.out hb); clear q0 q1 q2 q3 q4 q5 hb hal hs; obtain ⟨q0, q1, q2, q3, q4, q5⟩ := six_cells HG.out; obtain ⟨z0, z1, z2, z3, z4, z5⟩ := six_cells H7.out)
    | (go_at_call 18; refine (xDone_calls S p1 _ HS1.out HSD.out).mono ?_; rintro e w7 ⟨rfl, hb⟩; rw [HE3.out, HE2.out]; replace HG := Aside0.mk (blk_below HG.out hb); replace HS1 := Aside0.mk (HS1.out.below hb); replace HB := Aside0.mk (HB.out.trans (hb.mono HB.out.size)); replace HWR := Aside0.mk (Kd.C_below HWR.out hb); replace H7 := Aside0.mk (blk_below H7.out hb); replace HN7 := Aside0.mk (HN7.out.below hb); clear q0 q1 q2 q3 q4 q5; clear z0 z1 z2 z3 z4 z5; clear hb; obtain ⟨q0, q1, q2, q3, q4, q5⟩ := six_cells HG.out; obtain ⟨z0, z1, z2, z3, z4, z5⟩ := six_cells H7.out)
    | (go_at_call 10; refine hold ?_))
  refine ⟨(refRightC S p1 _ HS1.out HSD.out).mono ?_⟩
  rintro e w8 ⟨rfl, hb⟩
  replace HG := Aside0.mk (blk_below HG.out hb); replace HS1 := Aside0.mk (HS1.out.below hb); replace HB := Aside0.mk (HB.out.trans (hb.mono HB.out.size)); replace HWR := Aside0.mk (Kd.C_below HWR.out hb); replace H7 := Aside0.mk (blk_below H7.out hb); replace HN7 := Aside0.mk (HN7.out.below hb); clear q0 q1 q2 q3 q4 q5; clear z0 z1 z2 z3 z4 z5; clear hb; obtain ⟨q0, q1, q2, q3, q4, q5⟩ := six_cells HG.out; obtain ⟨z0, z1, z2, z3, z4, z5⟩ := six_cells H7.out
  generalize w6.heap.size = g7 at *
  cases hr : rightB S with
  | false =>
    obtain rfl : EL = [] := by have := HE1.out; rw [hr] at this; exact this.symm
    obtain rfl : ce = 1 := by have := HE2.out; rw [hr] at this; exact this.symm
    obtain rfl : dn = false := by have := HE3.out; rw [hr] at this; exact this.symm
    obtain ⟨rfl, rfl⟩ : Syst.none = N ∧ 1 = cN := by
      have h1 := HE4.out
      unfold xStep at h1
      rw [if_pos hr] at h1
      exact Prod.mk.inj h1
    clear hr HE1 HE2 HE3 HE4
    go_wp2_with (first | (go_at_call 11; refine (alive_calls _).mono ?_; rintro e wH ⟨rfl, hb⟩; replace HG := Aside0.mk (blk_below HG.out hb); replace HS1 := Aside0.mk (HS1.out.below hb); replace HB := Aside0.mk (HB.out.trans (hb.mono HB.out.size)); replace HWR := Aside0.mk (Kd.C_below HWR.out hb); replace H7 := Aside0.mk (blk_below H7.out hb); replace HN7 := Aside0.mk (HN7.out.below hb); clear q0 q1 q2 q3 q4 q5; clear z0 z1 z2 z3 z4 z5; clear hb; obtain ⟨q0, q1, q2, q3, q4, q5⟩ := six_cells HG.out; obtain ⟨z0, z1, z2, z3, z4, z5⟩ := six_cells H7.out) | (go_at_call 12; refine (sameC Syst.none p7 Ad.none _ HN7.out (SysC_none _) noneBd).mono ?_; rintro e wI ⟨rfl, hb⟩; replace HG := Aside0.mk (blk_below HG.out hb); replace HS1 := Aside0.mk (HS1.out.below hb); replace HB := Aside0.mk (HB.out.trans (hb.mono HB.out.size)); replace HWR := Aside0.mk (Kd.C_below HWR.out hb); replace H7 := Aside0.mk (blk_below H7.out hb); replace HN7 := Aside0.mk (HN7.out.below hb); clear q0 q1 q2 q3 q4 q5; clear z0 z1 z2 z3 z4 z5; clear hb; obtain ⟨q0, q1, q2, q3, q4, q5⟩ := six_cells HG.out; obtain ⟨z0, z1, z2, z3, z4, z5⟩ := six_cells H7.out))
    go_ret
    exact ⟨rfl, HB.out⟩
  | true =>
    have HSH := Aside0.mk (right_shp hr)
    obtain rfl : EL = enL S := by have := HE1.out; rw [hr] at this; exact this.symm
    obtain rfl : ce = 0 := by have := HE2.out; rw [hr] at this; exact this.symm
    obtain rfl : dn = doneB S := by have := HE3.out; rw [hr] at this; exact this.symm
    have HEL := Aside0.mk (en_le8 HSH.out)
    have hx := HE4.out
    unfold xStep at hx
    rw [if_neg (by rw [hr]; decide)] at hx
    clear HE1 HE2 HE3 HE4
    have HRR := Aside0.mk hr
    clear hr
    by_cases h1 : t < 0
    · obtain ⟨rfl, rfl⟩ : Syst.none = N ∧ 3 = cN := by
        rw [if_pos (by unfold inB; rw [decide_eq_false (show ¬ 0 ≤ t by omega)]; rfl)] at hx
        exact Prod.mk.inj hx
      clear hx
      go_wp2_with (first | (go_at_call 25; refine (refEn_calls S p1 _ HS1.out HSH.out).mono ?_; rintro e wE ⟨E, dE, rfl, hd, hci, hb⟩; have HEC := Aside0.mk hci; have HED := Aside0.mk hd; clear hci hd; replace HG := Aside0.mk (blk_below HG.out hb); replace HS1 := Aside0.mk (HS1.out.below hb); replace HB := Aside0.mk (HB.out.trans (hb.mono HB.out.size)); replace HWR := Aside0.mk (Kd.C_below HWR.out hb); replace H7 := Aside0.mk (blk_below H7.out hb); replace HN7 := Aside0.mk (HN7.out.below hb); clear q0 q1 q2 q3 q4 q5; clear z0 z1 z2 z3 z4 z5; clear hb; obtain ⟨q0, q1, q2, q3, q4, q5⟩ := six_cells HG.out; obtain ⟨z0, z1, z2, z3, z4, z5⟩ := six_cells H7.out) | (go_at_call 14; refine (numC B E dB dE (enL S) _ HWR.out HWD.out HEC.out HED.out HEL.out).mono ?_; rintro e wF ⟨rfl, hb⟩; replace HG := Aside0.mk (blk_below HG.out hb); replace HS1 := Aside0.mk (HS1.out.below hb); replace HB := Aside0.mk (HB.out.trans (hb.mono HB.out.size)); replace HWR := Aside0.mk (Kd.C_below HWR.out hb); replace H7 := Aside0.mk (blk_below H7.out hb); replace HN7 := Aside0.mk (HN7.out.below hb); clear q0 q1 q2 q3 q4 q5; clear z0 z1 z2 z3 z4 z5; clear hb; obtain ⟨q0, q1, q2, q3, q4, q5⟩ := six_cells HG.out; obtain ⟨z0, z1, z2, z3, z4, z5⟩ := six_cells H7.out) | (go_at_call 26; refine (refDoneC S p1 _ HS1.out HSH.out).mono ?_; rintro e wG ⟨rfl, hb⟩; replace HG := Aside0.mk (blk_below HG.out hb); replace HS1 := Aside0.mk (HS1.out.below hb); replace HB := Aside0.mk (HB.out.trans (hb.mono HB.out.size)); replace HWR := Aside0.mk (Kd.C_below HWR.out hb); replace H7 := Aside0.mk (blk_below H7.out hb); replace HN7 := Aside0.mk (HN7.out.below hb); clear q0 q1 q2 q3 q4 q5; clear z0 z1 z2 z3 z4 z5; clear hb; obtain ⟨q0, q1, q2, q3, q4, q5⟩ := six_cells HG.out; obtain ⟨z0, z1, z2, z3, z4, z5⟩ := six_cells H7.out) | (go_at_call 11; refine (alive_calls _).mono ?_; rintro e wH ⟨rfl, hb⟩; replace HG := Aside0.mk (blk_below HG.out hb); replace HS1 := Aside0.mk (HS1.out.below hb); replace HB := Aside0.mk (HB.out.trans (hb.mono HB.out.size)); replace HWR := Aside0.mk (Kd.C_below HWR.out hb); replace H7 := Aside0.mk (blk_below H7.out hb); replace HN7 := Aside0.mk (HN7.out.below hb); clear q0 q1 q2 q3 q4 q5; clear z0 z1 z2 z3 z4 z5; clear hb; obtain ⟨q0, q1, q2, q3, q4, q5⟩ := six_cells HG.out; obtain ⟨z0, z1, z2, z3, z4, z5⟩ := six_cells H7.out) | (go_at_call 12; refine (sameC Syst.none p7 Ad.none _ HN7.out (SysC_none _) noneBd).mono ?_; rintro e wI ⟨rfl, hb⟩; replace HG := Aside0.mk (blk_below HG.out hb); replace HS1 := Aside0.mk (HS1.out.below hb); replace HB := Aside0.mk (HB.out.trans (hb.mono HB.out.size)); replace HWR := Aside0.mk (Kd.C_below HWR.out hb); replace H7 := Aside0.mk (blk_below H7.out hb); replace HN7 := Aside0.mk (HN7.out.below hb); clear q0 q1 q2 q3 q4 q5; clear z0 z1 z2 z3 z4 z5; clear hb; obtain ⟨q0, q1, q2, q3, q4, q5⟩ := six_cells HG.out; obtain ⟨z0, z1, z2, z3, z4, z5⟩ := six_cells H7.out))
      go_ret
      exact ⟨rfl, HB.out⟩
    · by_cases h2 : t ≥ (S.th.length : Int)
      · obtain ⟨rfl, rfl⟩ : Syst.none = N ∧ 3 = cN := by
          rw [if_pos (by unfold inB; rw [decide_eq_false (show ¬ t ≤ (S.th.length : Int) - 1 by omega), Bool.and_false])] at hx
          exact Prod.mk.inj hx
        clear hx
        go_wp2_with (first | (go_at_call 25; refine (refEn_calls S p1 _ HS1.out HSH.out).mono ?_; rintro e wE ⟨E, dE, rfl, hd, hci, hb⟩; have HEC := Aside0.mk hci; have HED := Aside0.mk hd; clear hci hd; replace HG := Aside0.mk (blk_below HG.out hb); replace HS1 := Aside0.mk (HS1.out.below hb); replace HB := Aside0.mk (HB.out.trans (hb.mono HB.out.size)); replace HWR := Aside0.mk (Kd.C_below HWR.out hb); replace H7 := Aside0.mk (blk_below H7.out hb); replace HN7 := Aside0.mk (HN7.out.below hb); clear q0 q1 q2 q3 q4 q5; clear z0 z1 z2 z3 z4 z5; clear hb; obtain ⟨q0, q1, q2, q3, q4, q5⟩ := six_cells HG.out; obtain ⟨z0, z1, z2, z3, z4, z5⟩ := six_cells H7.out) | (go_at_call 14; refine (numC B E dB dE (enL S) _ HWR.out HWD.out HEC.out HED.out HEL.out).mono ?_; rintro e wF ⟨rfl, hb⟩; replace HG := Aside0.mk (blk_below HG.out hb); replace HS1 := Aside0.mk (HS1.out.below hb); replace HB := Aside0.mk (HB.out.trans (hb.mono HB.out.size)); replace HWR := Aside0.mk (Kd.C_below HWR.out hb); replace H7 := Aside0.mk (blk_below H7.out hb); replace HN7 := Aside0.mk (HN7.out.below hb); clear q0 q1 q2 q3 q4 q5; clear z0 z1 z2 z3 z4 z5; clear hb; obtain ⟨q0, q1, q2, q3, q4, q5⟩ := six_cells HG.out; obtain ⟨z0, z1, z2, z3, z4, z5⟩ := six_cells H7.out) | (go_at_call 26; refine (refDoneC S p1 _ HS1.out HSH.out).mono ?_; rintro e wG ⟨rfl, hb⟩; replace HG := Aside0.mk (blk_below HG.out hb); replace HS1 := Aside0.mk (HS1.out.below hb); replace HB := Aside0.mk (HB.out.trans (hb.mono HB.out.size)); replace HWR := Aside0.mk (Kd.C_below HWR.out hb); replace H7 := Aside0.mk (blk_below H7.out hb); replace HN7 := Aside0.mk (HN7.out.below hb); clear q0 q1 q2 q3 q4 q5; clear z0 z1 z2 z3 z4 z5; clear hb; obtain ⟨q0, q1, q2, q3, q4, q5⟩ := six_cells HG.out; obtain ⟨z0, z1, z2, z3, z4, z5⟩ := six_cells H7.out) | (go_at_call 11; refine (alive_calls _).mono ?_; rintro e wH ⟨rfl, hb⟩; replace HG := Aside0.mk (blk_below HG.out hb); replace HS1 := Aside0.mk (HS1.out.below hb); replace HB := Aside0.mk (HB.out.trans (hb.mono HB.out.size)); replace HWR := Aside0.mk (Kd.C_below HWR.out hb); replace H7 := Aside0.mk (blk_below H7.out hb); replace HN7 := Aside0.mk (HN7.out.below hb); clear q0 q1 q2 q3 q4 q5; clear z0 z1 z2 z3 z4 z5; clear hb; obtain ⟨q0, q1, q2, q3, q4, q5⟩ := six_cells HG.out; obtain ⟨z0, z1, z2, z3, z4, z5⟩ := six_cells H7.out) | (go_at_call 12; refine (sameC Syst.none p7 Ad.none _ HN7.out (SysC_none _) noneBd).mono ?_; rintro e wI ⟨rfl, hb⟩; replace HG := Aside0.mk (blk_below HG.out hb); replace HS1 := Aside0.mk (HS1.out.below hb); replace HB := Aside0.mk (HB.out.trans (hb.mono HB.out.size)); replace HWR := Aside0.mk (Kd.C_below HWR.out hb); replace H7 := Aside0.mk (blk_below H7.out hb); replace HN7 := Aside0.mk (HN7.out.below hb); clear q0 q1 q2 q3 q4 q5; clear z0 z1 z2 z3 z4 z5; clear hb; obtain ⟨q0, q1, q2, q3, q4, q5⟩ := six_cells HG.out; obtain ⟨z0, z1, z2, z3, z4, z5⟩ := six_cells H7.out))
        go_ret
        exact ⟨rfl, HB.out⟩
      · obtain ⟨t, rfl⟩ : ∃ n : Nat, t = n := ⟨t.toNat, by omega⟩
        have HTN : Aside0 (t < S.th.length) := ⟨by omega⟩
        rw [if_neg (by unfold inB; rw [decide_eq_true (show 0 ≤ (t : Int) by omega), decide_eq_true (show (t : Int) ≤ (S.th.length : Int) - 1 by omega)]; decide), Int.toNat_natCast] at hx
        cases hc : canB S t with
        | false =>
          have HCB := Aside0.mk hc
          obtain ⟨rfl, rfl⟩ : Syst.none = N ∧ 11 = cN := by
            rw [if_pos hc] at hx
            exact Prod.mk.inj hx
          clear hx hc
          go_wp2_with (first | (go_at_call 25; refine (refEn_calls S p1 _ HS1.out HSH.out).mono ?_; rintro e wE ⟨E, dE, rfl, hd, hci, hb⟩; have HEC := Aside0.mk hci; have HED := Aside0.mk hd; clear hci hd; replace HG := Aside0.mk (blk_below HG.out hb); replace HS1 := Aside0.mk (HS1.out.below hb); replace HB := Aside0.mk (HB.out.trans (hb.mono HB.out.size)); replace HWR := Aside0.mk (Kd.C_below HWR.out hb); replace H7 := Aside0.mk (blk_below H7.out hb); replace HN7 := Aside0.mk (HN7.out.below hb); clear q0 q1 q2 q3 q4 q5; clear z0 z1 z2 z3 z4 z5; clear hb; obtain ⟨q0, q1, q2, q3, q4, q5⟩ := six_cells HG.out; obtain ⟨z0, z1, z2, z3, z4, z5⟩ := six_cells H7.out) | (go_at_call 14; refine (numC B E dB dE (enL S) _ HWR.out HWD.out HEC.out HED.out HEL.out).mono ?_; rintro e wF ⟨rfl, hb⟩; replace HG := Aside0.mk (blk_below HG.out hb); replace HS1 := Aside0.mk (HS1.out.below hb); replace HB := Aside0.mk (HB.out.trans (hb.mono HB.out.size)); replace HWR := Aside0.mk (Kd.C_below HWR.out hb); replace H7 := Aside0.mk (blk_below H7.out hb); replace HN7 := Aside0.mk (HN7.out.below hb); clear q0 q1 q2 q3 q4 q5; clear z0 z1 z2 z3 z4 z5; clear hb; obtain ⟨q0, q1, q2, q3, q4, q5⟩ := six_cells HG.out; obtain ⟨z0, z1, z2, z3, z4, z5⟩ := six_cells H7.out) | (go_at_call 26; refine (refDoneC S p1 _ HS1.out HSH.out).mono ?_; rintro e wG ⟨rfl, hb⟩; replace HG := Aside0.mk (blk_below HG.out hb); replace HS1 := Aside0.mk (HS1.out.below hb); replace HB := Aside0.mk (HB.out.trans (hb.mono HB.out.size)); replace HWR := Aside0.mk (Kd.C_below HWR.out hb); replace H7 := Aside0.mk (blk_below H7.out hb); replace HN7 := Aside0.mk (HN7.out.below hb); clear q0 q1 q2 q3 q4 q5; clear z0 z1 z2 z3 z4 z5; clear hb; obtain ⟨q0, q1, q2, q3, q4, q5⟩ := six_cells HG.out; obtain ⟨z0, z1, z2, z3, z4, z5⟩ := six_cells H7.out) | (go_at_call 11; refine (alive_calls _).mono ?_; rintro e wH ⟨rfl, hb⟩; replace HG := Aside0.mk (blk_below HG.out hb); replace HS1 := Aside0.mk (HS1.out.below hb); replace HB := Aside0.mk (HB.out.trans (hb.mono HB.out.size)); replace HWR := Aside0.mk (Kd.C_below HWR.out hb); replace H7 := Aside0.mk (blk_below H7.out hb); replace HN7 := Aside0.mk (HN7.out.below hb); clear q0 q1 q2 q3 q4 q5; clear z0 z1 z2 z3 z4 z5; clear hb; obtain ⟨q0, q1, q2, q3, q4, q5⟩ := six_cells HG.out; obtain ⟨z0, z1, z2, z3, z4, z5⟩ := six_cells H7.out) | (go_at_call 27; refine (refCanC S p1 t false _ HS1.out HSH.out HTN.out HCB.out).mono ?_; rintro e wJ ⟨rfl, hb⟩; replace HG := Aside0.mk (blk_below HG.out hb); replace HS1 := Aside0.mk (HS1.out.below hb); replace HB := Aside0.mk (HB.out.trans (hb.mono HB.out.size)); replace HWR := Aside0.mk (Kd.C_below HWR.out hb); replace H7 := Aside0.mk (blk_below H7.out hb); replace HN7 := Aside0.mk (HN7.out.below hb); clear q0 q1 q2 q3 q4 q5; clear z0 z1 z2 z3 z4 z5; clear hb; obtain ⟨q0, q1, q2, q3, q4, q5⟩ := six_cells HG.out; obtain ⟨z0, z1, z2, z3, z4, z5⟩ := six_cells H7.out) | (go_at_call 12; refine (sameC Syst.none p7 Ad.none _ HN7.out (SysC_none _) noneBd).mono ?_; rintro e wI ⟨rfl, hb⟩; replace HG := Aside0.mk (blk_below HG.out hb); replace HS1 := Aside0.mk (HS1.out.below hb); replace HB := Aside0.mk (HB.out.trans (hb.mono HB.out.size)); replace HWR := Aside0.mk (Kd.C_below HWR.out hb); replace H7 := Aside0.mk (blk_below H7.out hb); replace HN7 := Aside0.mk (HN7.out.below hb); clear q0 q1 q2 q3 q4 q5; clear z0 z1 z2 z3 z4 z5; clear hb; obtain ⟨q0, q1, q2, q3, q4, q5⟩ := six_cells HG.out; obtain ⟨z0, z1, z2, z3, z4, z5⟩ := six_cells H7.out))
          go_ret
          exact ⟨rfl, HB.out⟩
        | true =>
          have HCB := Aside0.mk hc
          obtain ⟨hN, rfl⟩ : stepN S t = N ∧ 0 = cN := by
            rw [if_neg (by rw [hc]; decide)] at hx
            exact Prod.mk.inj hx
          obtain ⟨i, hi, hci⟩ := canB_some hc
          have HNB : Aside0 (Bd N) := ⟨by rw [← hN]; exact shp_bd (stepN_shp HSH.out hc)⟩
          have HRS : Aside0 (∀ W, SysC (hid (fun _ => false) W) S p1 → Calls Try.prog 28 #[.agg (sysA S p1), .int .i64 (t : Int)] W (SysP (fun _ => false) N W)) := ⟨fun W h => by
            rw [← hN, stepN_eq hi]
            exact refStep_calls (fun _ => false) S p1 t i W h (fun k hk => by cases hk) HSH.out HTN.out hi hci⟩
          clear hx hc hN hi hci
          go_wp2_with (first | (go_at_call 25; refine (refEn_calls S p1 _ HS1.out HSH.out).mono ?_; rintro e wE ⟨E, dE, rfl, hd, hci, hb⟩; have HEC := Aside0.mk hci; have HED := Aside0.mk hd; clear hci hd; replace HG := Aside0.mk (blk_below HG.out hb); replace HS1 := Aside0.mk (HS1.out.below hb); replace HB := Aside0.mk (HB.out.trans (hb.mono HB.out.size)); replace HWR := Aside0.mk (Kd.C_below HWR.out hb); replace H7 := Aside0.mk (blk_below H7.out hb); replace HN7 := Aside0.mk (HN7.out.below hb); clear q0 q1 q2 q3 q4 q5; clear z0 z1 z2 z3 z4 z5; clear hb; obtain ⟨q0, q1, q2, q3, q4, q5⟩ := six_cells HG.out; obtain ⟨z0, z1, z2, z3, z4, z5⟩ := six_cells H7.out) | (go_at_call 14; refine (numC B E dB dE (enL S) _ HWR.out HWD.out HEC.out HED.out HEL.out).mono ?_; rintro e wF ⟨rfl, hb⟩; replace HG := Aside0.mk (blk_below HG.out hb); replace HS1 := Aside0.mk (HS1.out.below hb); replace HB := Aside0.mk (HB.out.trans (hb.mono HB.out.size)); replace HWR := Aside0.mk (Kd.C_below HWR.out hb); replace H7 := Aside0.mk (blk_below H7.out hb); replace HN7 := Aside0.mk (HN7.out.below hb); clear q0 q1 q2 q3 q4 q5; clear z0 z1 z2 z3 z4 z5; clear hb; obtain ⟨q0, q1, q2, q3, q4, q5⟩ := six_cells HG.out; obtain ⟨z0, z1, z2, z3, z4, z5⟩ := six_cells H7.out) | (go_at_call 26; refine (refDoneC S p1 _ HS1.out HSH.out).mono ?_; rintro e wG ⟨rfl, hb⟩; replace HG := Aside0.mk (blk_below HG.out hb); replace HS1 := Aside0.mk (HS1.out.below hb); replace HB := Aside0.mk (HB.out.trans (hb.mono HB.out.size)); replace HWR := Aside0.mk (Kd.C_below HWR.out hb); replace H7 := Aside0.mk (blk_below H7.out hb); replace HN7 := Aside0.mk (HN7.out.below hb); clear q0 q1 q2 q3 q4 q5; clear z0 z1 z2 z3 z4 z5; clear hb; obtain ⟨q0, q1, q2, q3, q4, q5⟩ := six_cells HG.out; obtain ⟨z0, z1, z2, z3, z4, z5⟩ := six_cells H7.out) | (go_at_call 11; refine (alive_calls _).mono ?_; rintro e wH ⟨rfl, hb⟩; replace HG := Aside0.mk (blk_below HG.out hb); replace HS1 := Aside0.mk (HS1.out.below hb); replace HB := Aside0.mk (HB.out.trans (hb.mono HB.out.size)); replace HWR := Aside0.mk (Kd.C_below HWR.out hb); replace H7 := Aside0.mk (blk_below H7.out hb); replace HN7 := Aside0.mk (HN7.out.below hb); clear q0 q1 q2 q3 q4 q5; clear z0 z1 z2 z3 z4 z5; clear hb; obtain ⟨q0, q1, q2, q3, q4, q5⟩ := six_cells HG.out; obtain ⟨z0, z1, z2, z3, z4, z5⟩ := six_cells H7.out) | (go_at_call 27; refine (refCanC S p1 t true _ HS1.out HSH.out HTN.out HCB.out).mono ?_; rintro e wJ ⟨rfl, hb⟩; replace HG := Aside0.mk (blk_below HG.out hb); replace HS1 := Aside0.mk (HS1.out.below hb); replace HB := Aside0.mk (HB.out.trans (hb.mono HB.out.size)); replace HWR := Aside0.mk (Kd.C_below HWR.out hb); replace H7 := Aside0.mk (blk_below H7.out hb); replace HN7 := Aside0.mk (HN7.out.below hb); clear q0 q1 q2 q3 q4 q5; clear z0 z1 z2 z3 z4 z5; clear hb; obtain ⟨q0, q1, q2, q3, q4, q5⟩ := six_cells HG.out; obtain ⟨z0, z1, z2, z3, z4, z5⟩ := six_cells H7.out))
          refine start_ (n := 10) (S := fun w' => w'.cell? ⟨gA, 0, none⟩ = some (.slice p1.a0 S.th.length p1.c0) ∧ w'.cell? ⟨gA, 1, none⟩ = some (.slice p1.a1 S.at_.length p1.c1) ∧ w'.cell? ⟨gA, 2, none⟩ = some (.slice p1.a2 S.su.length p1.c2) ∧ w'.cell? ⟨gA, 3, none⟩ = some (.slice p1.a3 S.lo.length p1.c3) ∧ w'.cell? ⟨gA, 4, none⟩ = some (.slice p1.a4 S.ce.length p1.c4) ∧ w'.cell? ⟨gA, 5, none⟩ = some (.slice p1.a5 S.ch.length p1.c5) ∧ w'.cell? ⟨g7, 0, none⟩ = some (.slice p7.a0 N.th.length p7.c0) ∧ w'.cell? ⟨g7, 1, none⟩ = some (.slice p7.a1 N.at_.length p7.c1) ∧ w'.cell? ⟨g7, 2, none⟩ = some (.slice p7.a2 N.su.length p7.c2) ∧ w'.cell? ⟨g7, 3, none⟩ = some (.slice p7.a3 N.lo.length p7.c3) ∧ w'.cell? ⟨g7, 4, none⟩ = some (.slice p7.a4 N.ce.length p7.c4) ∧ w'.cell? ⟨g7, 5, none⟩ = some (.slice p7.a5 N.ch.length p7.c5)) (ds := []) #[false, false, false, false, false, false, false, false, false, false] (by kernel_rfl) rfl rfl ⟨q0, q1, q2, q3, q4, q5, z0, z1, z2, z3, z4, z5⟩ (fun hHeld => ?_)
          replace HS1 := Aside0.mk (HS1.out.below (below_drew (Below.refl _ _)))
          replace HN7 := Aside0.mk (HN7.out.below (below_drew (Below.refl _ _)))
          replace HB := Aside0.mk (below_drew HB.out)
          clear q0 q1 q2 q3 q4 q5
          clear z0 z1 z2 z3 z4 z5
          refine pure_ (i := 0) (N := some 111) (v := ?_) (a' := ?_) #[true, false, false, false, false, false, false, false, false, false] rfl rfl (by kernel_rfl) (fun _ _ _ h => h) (Or.inl ⟨by rfl, ?_⟩) ?_ ?_
          rotate_left
          · intro w'
            go_simp
            with_reducible rfl
          rotate_left
          · simp only [Act.put, List.setIfInBounds_toArray, List.set_cons_zero, List.set_cons_succ, i64_w, i32_w]
            rfl
          refine pure_ (i := 1) (N := some 112) (v := ?_) (a' := ?_) #[true, true, false, false, false, false, false, false, false, false] rfl rfl (by kernel_rfl) (fun _ _ _ h => h) (Or.inl ⟨by rfl, ?_⟩) ?_ ?_
          rotate_left
          · intro w'
            go_simp
            with_reducible rfl
          rotate_left
          · simp only [Act.put, List.setIfInBounds_toArray, List.set_cons_zero, List.set_cons_succ, i64_w, i32_w]
            rfl
          refine pure_ (i := 2) (N := some 113) (v := ?_) (a' := ?_) #[true, true, true, false, false, false, false, false, false, false] rfl rfl (by kernel_rfl) (fun _ _ _ h => h) (Or.inl ⟨by rfl, ?_⟩) ?_ ?_
          rotate_left
          · intro w'
            go_simp
            with_reducible rfl
          rotate_left
          · simp only [Act.put, List.setIfInBounds_toArray, List.set_cons_zero, List.set_cons_succ, i64_w, i32_w]
            rfl
          refine take_ (i := 3) (N := some 114) (v := ?_) (a' := ?_) #[true, true, true, true, false, false, false, false, false, false] rfl rfl (by kernel_rfl) (fun _ _ _ h => h) (Or.inl ⟨by rfl, ?_⟩) hHeld ?_ ?_
          rotate_left
          · rintro w' ⟨s0, s1, s2, s3, s4, s5, s6, s7, s8, s9, s10, s11⟩
            go_simp
            with_reducible rfl
          rotate_left
          · simp only [Act.put, List.setIfInBounds_toArray, List.set_cons_zero, List.set_cons_succ, i64_w, i32_w]
            rfl
          refine take_ (i := 4) (N := some 115) (v := ?_) (a' := ?_) #[true, true, true, true, true, false, false, false, false, false] rfl rfl (by kernel_rfl) (fun _ _ _ h => h) (Or.inl ⟨by rfl, ?_⟩) hHeld ?_ ?_
          rotate_left
          · rintro w' ⟨s0, s1, s2, s3, s4, s5, s6, s7, s8, s9, s10, s11⟩
            go_simp
            with_reducible rfl
          rotate_left
          · simp only [Act.put, List.setIfInBounds_toArray, List.set_cons_zero, List.set_cons_succ, i64_w, i32_w]
            rfl
          refine pure_ (i := 5) (N := some 116) (v := ?_) (a' := ?_) #[true, true, true, true, true, true, false, false, false, false] rfl rfl (by kernel_rfl) (fun _ _ _ h => h) (Or.inl ⟨by rfl, ?_⟩) ?_ ?_
          rotate_left
          · intro w'
            go_simp
            with_reducible rfl
          rotate_left
          · simp only [Act.put, List.setIfInBounds_toArray, List.set_cons_zero, List.set_cons_succ, i64_w, i32_w]
            rfl
          refine one_ (i := 6) (N := some 117) #[true, true, true, true, true, true, true, false, false, false] rfl rfl (by kernel_rfl) (by decide) (fun K hK => ?_)
          refine goes_ Try.func28 (by kernel_rfl) rfl #[.agg #[.slice p1.a0 S.th.length p1.c0, .slice p1.a1 S.at_.length p1.c1, .slice p1.a2 S.su.length p1.c2, .slice p1.a3 S.lo.length p1.c3, .slice p1.a4 S.ce.length p1.c4, .slice p1.a5 S.ch.length p1.c5], .int .i64 (t : Int)] (by rfl) rfl rfl (by (try simp only [List.map_toArray, List.map_cons, List.map_nil]); first | done | rfl) ?_
          refine (HRS.out _ (HS1.out.up (hid_none _))).mono ?_
          rintro e wK ⟨p9, rfl, hs, hb⟩
          refine ⟨_, rfl, ?_⟩
          refine hK.out _ _ ⟨pw_cell_below hb (hHeld.1), pw_cell_below hb (hHeld.2.1), pw_cell_below hb (hHeld.2.2.1), pw_cell_below hb (hHeld.2.2.2.1), pw_cell_below hb (hHeld.2.2.2.2.1), pw_cell_below hb (hHeld.2.2.2.2.2.1), pw_cell_below hb (hHeld.2.2.2.2.2.2.1), pw_cell_below hb (hHeld.2.2.2.2.2.2.2.1), pw_cell_below hb (hHeld.2.2.2.2.2.2.2.2.1), pw_cell_below hb (hHeld.2.2.2.2.2.2.2.2.2.1), pw_cell_below hb (hHeld.2.2.2.2.2.2.2.2.2.2.1), pw_cell_below hb (hHeld.2.2.2.2.2.2.2.2.2.2.2)⟩ (fun hHeld => ?_)
          replace HS1 := Aside0.mk (HS1.out.below hb)
          replace HN7 := Aside0.mk (HN7.out.below hb)
          replace HB := Aside0.mk (HB.out.trans (hb.mono HB.out.size))
          have HS9 := Aside0.mk (hs.up (hid_up _ _))
          clear hs hb
          unfold sysA
          clear hK K
          refine norm_ (a' := ?_) ?_ ?_
          rotate_left
          · show Act.put _ (some 117) _ = _
            simp only [Act.put, List.setIfInBounds_toArray, List.set_cons_zero, List.set_cons_succ, i64_w, i32_w]
            rfl
          refine one_ (i := 7) (N := some 118) #[true, true, true, true, true, true, true, true, false, false] rfl rfl (by kernel_rfl) (by decide) (fun K hK => ?_)
          refine goes_ Try.func12 (by kernel_rfl) rfl #[.agg #[.slice p7.a0 N.th.length p7.c0, .slice p7.a1 N.at_.length p7.c1, .slice p7.a2 N.su.length p7.c2, .slice p7.a3 N.lo.length p7.c3, .slice p7.a4 N.ce.length p7.c4, .slice p7.a5 N.ch.length p7.c5], .agg #[.slice p9.a0 N.th.length p9.c0, .slice p9.a1 N.at_.length p9.c1, .slice p9.a2 N.su.length p9.c2, .slice p9.a3 N.lo.length p9.c3, .slice p9.a4 N.ce.length p9.c4, .slice p9.a5 N.ch.length p9.c5]] (by rfl) rfl rfl (by (try simp only [List.map_toArray, List.map_cons, List.map_nil]); first | done | rfl) ?_
          refine (sameC N p7 p9 _ HN7.out HS9.out HNB.out).mono ?_
          rintro e wL ⟨rfl, hb⟩
          refine ⟨_, rfl, ?_⟩
          refine hK.out _ _ ⟨pw_cell_below hb (hHeld.1), pw_cell_below hb (hHeld.2.1), pw_cell_below hb (hHeld.2.2.1), pw_cell_below hb (hHeld.2.2.2.1), pw_cell_below hb (hHeld.2.2.2.2.1), pw_cell_below hb (hHeld.2.2.2.2.2.1), pw_cell_below hb (hHeld.2.2.2.2.2.2.1), pw_cell_below hb (hHeld.2.2.2.2.2.2.2.1), pw_cell_below hb (hHeld.2.2.2.2.2.2.2.2.1), pw_cell_below hb (hHeld.2.2.2.2.2.2.2.2.2.1), pw_cell_below hb (hHeld.2.2.2.2.2.2.2.2.2.2.1), pw_cell_below hb (hHeld.2.2.2.2.2.2.2.2.2.2.2)⟩ (fun hHeld => ?_)
          replace HB := Aside0.mk (HB.out.trans (hb.mono HB.out.size))
          clear hb
          clear hK K
          refine norm_ (a' := ?_) ?_ ?_
          rotate_left
          · show Act.put _ (some 118) _ = _
            simp only [Act.put, List.setIfInBounds_toArray, List.set_cons_zero, List.set_cons_succ, i64_w, i32_w]
            rfl
          refine pure_ (i := 8) (N := some 119) (v := ?_) (a' := ?_) #[true, true, true, true, true, true, true, true, true, false] rfl rfl (by kernel_rfl) (fun _ _ _ h => h) (Or.inl ⟨by rfl, ?_⟩) ?_ ?_
          rotate_left
          · intro w'
            go_simp
            with_reducible rfl
          rotate_left
          · simp only [Act.put, List.setIfInBounds_toArray, List.set_cons_zero, List.set_cons_succ, i64_w, i32_w]
            rfl
          refine pure_ (i := 9) (N := some 4) (v := ?_) (a' := ?_) #[true, true, true, true, true, true, true, true, true, true] rfl rfl (by kernel_rfl) (fun _ _ _ h => h) (Or.inl ⟨by rfl, ?_⟩) ?_ ?_
          rotate_left
          · intro w'
            go_simp
            with_reducible rfl
          rotate_left
          · simp only [Act.put, List.setIfInBounds_toArray, List.set_cons_zero, List.set_cons_succ, i64_w, i32_w]
            rfl
          refine done_ (by kernel_rfl) ?_
          go_wp2
          go_ret
          exact ⟨rfl, HB.out⟩
end Go.Proofs.Ythnimpbcfegmjaa.Own

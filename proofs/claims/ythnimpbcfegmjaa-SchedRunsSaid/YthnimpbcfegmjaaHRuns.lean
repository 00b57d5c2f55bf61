/-
  The law SchedRuns, walked by hand: any system behind any picks, and who went on, is as the document says, or refused.
-/
import Derived.Test.YthnimpbcfegmjaaH0
import Derived.Test.YthnimpbcfegmjaaS24
namespace Go.Proofs.Ythnimpbcfegmjaa.Own
open Go.RowKit Go.Proofs.YthnimpbcfegmjaaW.PrintWords Go.Proofs.YthnimpbcfegmjaaW.PrintLast Go.Proofs.YthnimpbcfegmjaaW.PrintMore Go.Proofs.Ythnimpbcfegmjaa.P Go.Proofs.Ythnimpbcfegmjaa.Model
set_option linter.unusedVariables false
set_option linter.unusedSimpArgs false
attribute [local go_sem] max2_int min2_int max_two min_two max_three min_three max_four min_four

set_option maxRecDepth 100000 in
set_option maxHeartbeats 16000000 in
theorem runsLaw_calls (s : Syst) (p : Ad) (A : Option Addr) (c : Nat) (l : List Int) (w : World) (hC : SysC w s p) (hl : CI w A l) (hlc : l.length ≤ c) : Calls Try.prog 3 #[.agg (sysA s p), .slice A l.length c] w (fun e w' => e = .returned (.bool true) ∧ Below w.heap.size w w') := by
  have HB : Aside0 (Below w.heap.size w (w.alloc (.cells (sysA s p) 26))) := ⟨(Below.refl _ _).alloc (Nat.le_refl _) _⟩
  have HG := Aside0.mk (blk_new w (.cells (sysA s p) 26))
  have HS0 : Aside0 (SysC (hid (fun k => k == w.heap.size) (w.alloc (.cells (sysA s p) 26))) s p) := ⟨hC.up (up_new HB.out (fun k hk => by have := beq_iff_eq.1 hk; omega))⟩
  obtain ⟨L, hL⟩ : ∃ L, L = l.take 100 := ⟨_, rfl⟩
  have hLn : L.length = min l.length 100 := by rw [hL, List.length_take]; omega
  have HLC : Aside0 (CI w A L) := ⟨by
    have h2 := Kd.C_take hl (m := min l.length 100) (by omega)
    rw [take_min, ← hL] at h2
    exact h2⟩
  have HL60 : Aside0 (L.length ≤ 100 ∧ L.length ≤ c) := ⟨by omega⟩
  have qm : (if 100 < (l.length : Int) then (100 : Int) else (l.length : Int)) = (L.length : Int) := by split <;> omega
  have qc : ∀ W : World, (Instr.slice 23 (.slice A l.length c) none (some (.int .i64 (L.length : Int))) none).run Try.prog W = .ok (.slice A L.length c) W := fun W => by
    obtain ⟨i, hi, hz0, -⟩ := info_parts info3
    have h3 := cut_to (P := Try.prog) 23 3 .i64 Try.underlying23 hi A l.length c (L.length : Int) (by omega) (by omega) hlc W
    rw [Int.toNat_natCast] at h3
    exact h3
  clear hC hl hL hLn
  unfold sysA at *
  obtain ⟨q0, q1, q2, q3, q4, q5⟩ := six_cells HG.out
  go_enter Try.func3, Try.ntmps3
  go_wp2
  generalize w.alloc (.cells #[.slice p.a0 s.th.length p.c0, .slice p.a1 s.at_.length p.c1, .slice p.a2 s.su.length p.c2, .slice p.a3 s.lo.length p.c3, .slice p.a4 s.ce.length p.c4, .slice p.a5 s.ch.length p.c5] 26) = w1 at *
  clear q0 q1 q2 q3 q4 q5
  obtain ⟨gA, hgA⟩ : ∃ gA, gA = w.heap.size := ⟨_, rfl⟩
  rw [← hgA] at HG HS0 ⊢
  have HGA : Aside0 (w.heap.size ≤ gA) := ⟨Nat.le_of_eq hgA.symm⟩
  clear hgA
  obtain ⟨q0, q1, q2, q3, q4, q5⟩ := six_cells HG.out
  refine start_ (n := 9) (S := fun w' => w'.cell? ⟨gA, 0, none⟩ = some (.slice p.a0 s.th.length p.c0) ∧ w'.cell? ⟨gA, 1, none⟩ = some (.slice p.a1 s.at_.length p.c1) ∧ w'.cell? ⟨gA, 2, none⟩ = some (.slice p.a2 s.su.length p.c2) ∧ w'.cell? ⟨gA, 3, none⟩ = some (.slice p.a3 s.lo.length p.c3) ∧ w'.cell? ⟨gA, 4, none⟩ = some (.slice p.a4 s.ce.length p.c4) ∧ w'.cell? ⟨gA, 5, none⟩ = some (.slice p.a5 s.ch.length p.c5)) (ds := [7]) #[false, false, false, false, false, false, false, false, false] (by kernel_rfl) rfl rfl ⟨q0, q1, q2, q3, q4, q5⟩ (fun hHeld => ?_)
  replace HG := Aside0.mk (blk_drew HG.out)
  replace HS0 := Aside0.mk (HS0.out.up (up_hid (below_drew (Below.refl _ _)) (fun _ _ h => h)))
  replace HB := Aside0.mk (below_drew HB.out)
  clear q0 q1 q2 q3 q4 q5
  generalize w1.drew = w2 at *
  refine pure_ (i := 2) (N := some 11) (v := ?_) (a' := ?_) #[false, false, true, false, false, false, false, false, false] rfl rfl (by kernel_rfl) (fun _ _ _ h => h) (Or.inl ⟨by rfl, ?_⟩) ?_ ?_
  rotate_left
  · intro w'
    go_simp
    with_reducible rfl
  rotate_left
  · simp only [Act.put, List.setIfInBounds_toArray, List.set_cons_zero, List.set_cons_succ, i64_w, i32_w]
    rfl
  refine pure_ (i := 3) (N := some 12) (v := ?_) (a' := ?_) #[false, false, true, true, false, false, false, false, false] rfl rfl (by kernel_rfl) (fun _ _ _ h => h) (Or.inl ⟨by rfl, ?_⟩) ?_ ?_
  rotate_left
  · intro w'
    go_simp
    with_reducible rfl
  rotate_left
  · simp only [Act.put, List.setIfInBounds_toArray, List.set_cons_zero, List.set_cons_succ, i64_w, i32_w]
    rfl
  refine pure_ (i := 4) (N := some 13) (v := ?_) (a' := ?_) #[false, false, true, true, true, false, false, false, false] rfl rfl (by kernel_rfl) (fun _ _ _ h => h) (Or.inl ⟨by rfl, ?_⟩) ?_ ?_
  rotate_left
  · intro w'
    go_simp
    with_reducible rfl
  rotate_left
  · simp only [Act.put, List.setIfInBounds_toArray, List.set_cons_zero, List.set_cons_succ, i64_w, i32_w]
    rfl
  refine pure_ (i := 5) (N := some 14) (v := ?_) (a' := ?_) #[false, false, true, true, true, true, false, false, false] rfl rfl (by kernel_rfl) (fun _ _ _ h => h) (Or.inl ⟨by rfl, ?_⟩) ?_ ?_
  rotate_left
  · intro w'
    go_simp
    with_reducible rfl
  rotate_left
  · simp only [Act.put, List.setIfInBounds_toArray, List.set_cons_zero, List.set_cons_succ, i64_w, i32_w]
    rfl
  refine pure_ (i := 6) (N := some 15) (v := ?_) (a' := ?_) #[false, false, true, true, true, true, true, false, false] rfl rfl (by kernel_rfl) (fun _ _ _ h => h) (Or.inl ⟨by rfl, ?_⟩) ?_ ?_
  rotate_left
  · intro w'
    go_simp
    with_reducible rfl
  rotate_left
  · simp only [Act.put, List.setIfInBounds_toArray, List.set_cons_zero, List.set_cons_succ, i64_w, i32_w]
    rfl
  refine take_ (i := 0) (N := some 9) (v := ?_) (a' := ?_) #[true, false, true, true, true, true, true, false, false] rfl rfl (by kernel_rfl) (fun _ _ _ h => h) (Or.inl ⟨by rfl, ?_⟩) hHeld ?_ ?_
  rotate_left
  · rintro w' ⟨s0, s1, s2, s3, s4, s5⟩
    go_simp
    with_reducible rfl
  rotate_left
  · simp only [Act.put, List.setIfInBounds_toArray, List.set_cons_zero, List.set_cons_succ, i64_w, i32_w]
    rfl
  refine one_ (i := 1) (N := some 10) #[true, true, true, true, true, true, true, false, false] rfl rfl (by kernel_rfl) (by decide) (fun K hK => ?_)
  refine goes_ Try.func8 (by kernel_rfl) rfl #[.agg #[.slice p.a0 s.th.length p.c0, .slice p.a1 s.at_.length p.c1, .slice p.a2 s.su.length p.c2, .slice p.a3 s.lo.length p.c3, .slice p.a4 s.ce.length p.c4, .slice p.a5 s.ch.length p.c5]] (by rfl) rfl rfl (by (try simp only [List.map_toArray, List.map_cons, List.map_nil]); first | done | rfl) ?_
  refine (few_calls (fun k => k == gA) s p _ HS0.out (fun k hk => by have := beq_iff_eq.1 hk; subst this; exact blk_lt HG.out)).mono ?_
  rintro e w3 ⟨p1, rfl, hs, hb⟩
  refine ⟨_, rfl, ?_⟩
  refine hK.out _ _ ⟨pw_cell_below hb hHeld.1, pw_cell_below hb hHeld.2.1, pw_cell_below hb hHeld.2.2.1, pw_cell_below hb hHeld.2.2.2.1, pw_cell_below hb hHeld.2.2.2.2.1, pw_cell_below hb hHeld.2.2.2.2.2⟩ (fun hHeld => ?_)
  replace HG := Aside0.mk (blk_below HG.out hb)
  replace HB := Aside0.mk (HB.out.trans (hb.mono HB.out.size))
  have HS1 := Aside0.mk hs
  clear hs hb HS0
  obtain ⟨S, hS⟩ : ∃ S, fewS s = S := ⟨_, rfl⟩
  have HSD : Aside0 (Bd S) := ⟨by rw [← hS]; exact few_bd s⟩
  rw [hS] at HS1 ⊢
  clear hS
  unfold sysA
  clear hK K
  refine norm_ (a' := ?_) ?_ ?_
  rotate_left
  · show Act.put _ (some 10) _ = _
    simp only [Act.put, List.setIfInBounds_toArray, List.set_cons_zero, List.set_cons_succ, i64_w, i32_w]
    rfl
  refine last_ (i := 7) (N := none) #[true, true, true, true, true, true, true, true, false] rfl rfl (by kernel_rfl) (by decide) (fun K hK => ?_)
  clear hHeld
  obtain ⟨q0, q1, q2, q3, q4, q5⟩ := six_cells HG.out
  obtain ⟨x0, x1, x2, x3, x4, x5⟩ := six_frozen HG.out
  refine skip_ (w1 := ?_) (by rfl) rfl ?_ ?_
  rotate_left
  · go_simp
    rfl
  refine hK.out _ _ ?_
  clear hK K
  clear q0 q1 q2 q3 q4 q5 x0 x1 x2 x3 x4 x5
  replace HG := Aside0.mk (six_put (.slice p1.a0 S.th.length p1.c0) (.slice p1.a1 S.at_.length p1.c1) (.slice p1.a2 S.su.length p1.c2) (.slice p1.a3 S.lo.length p1.c3) (.slice p1.a4 S.ce.length p1.c4) (.slice p1.a5 S.ch.length p1.c5) HG.out)
  replace HS1 := Aside0.mk ((HS1.out.up (hid_six (g := gA) (by simp) (v0 := (.slice p1.a0 S.th.length p1.c0)) (v1 := (.slice p1.a1 S.at_.length p1.c1)) (v2 := (.slice p1.a2 S.su.length p1.c2)) (v3 := (.slice p1.a3 S.lo.length p1.c3)) (v4 := (.slice p1.a4 S.ce.length p1.c4)) (v5 := (.slice p1.a5 S.ch.length p1.c5)))).up (hid_up _ _))
  replace HB := Aside0.mk (below_six (g := gA) HB.out HGA.out (v0 := (.slice p1.a0 S.th.length p1.c0)) (v1 := (.slice p1.a1 S.at_.length p1.c1)) (v2 := (.slice p1.a2 S.su.length p1.c2)) (v3 := (.slice p1.a3 S.lo.length p1.c3)) (v4 := (.slice p1.a4 S.ce.length p1.c4)) (v5 := (.slice p1.a5 S.ch.length p1.c5)))
  generalize ((((((w3.setCell ⟨gA, 0, none⟩ (.slice p1.a0 S.th.length p1.c0)).setCell ⟨gA, 1, none⟩ (.slice p1.a1 S.at_.length p1.c1)).setCell ⟨gA, 2, none⟩ (.slice p1.a2 S.su.length p1.c2)).setCell ⟨gA, 3, none⟩ (.slice p1.a3 S.lo.length p1.c3)).setCell ⟨gA, 4, none⟩ (.slice p1.a4 S.ce.length p1.c4)).setCell ⟨gA, 5, none⟩ (.slice p1.a5 S.ch.length p1.c5)) = w4 at *
  refine pure_ (i := 8) (N := some 1) (v := ?_) (a' := ?_) #[true, true, true, true, true, true, true, true, true] rfl rfl (by kernel_rfl) (fun _ _ _ h => h) (Or.inl ⟨by rfl, ?_⟩) ?_ ?_
  rotate_left
  · intro w'
    go_simp
    with_reducible rfl
  rotate_left
  · simp only [Act.put, List.setIfInBounds_toArray, List.set_cons_zero, List.set_cons_succ, i64_w, i32_w]
    rfl
  refine done_ (by kernel_rfl) ?_
  have HL4 := Aside0.mk (Kd.C_below HLC.out HB.out)
  obtain ⟨q0, q1, q2, q3, q4, q5⟩ := six_cells HG.out
  clear qm qc HLC
  have HRC : Aside0 (∀ W (v : Bool), rightB S = v → SysC W S p1 → Calls Try.prog 10 #[.agg #[.slice p1.a0 S.th.length p1.c0, .slice p1.a1 S.at_.length p1.c1, .slice p1.a2 S.su.length p1.c2, .slice p1.a3 S.lo.length p1.c3, .slice p1.a4 S.ce.length p1.c4, .slice p1.a5 S.ch.length p1.c5]] W (fun e w' => e = .returned (.bool v) ∧ Below W.heap.size W w')) := ⟨fun W v hv h => by rw [← hv]; exact refRightC S p1 W h HSD.out⟩
  cases hr : rightB S with
  | false =>
    have HRUN : Aside0 (Calls Try.prog 9 #[.agg #[.slice p1.a0 S.th.length p1.c0, .slice p1.a1 S.at_.length p1.c1, .slice p1.a2 S.su.length p1.c2, .slice p1.a3 S.lo.length p1.c3, .slice p1.a4 S.ce.length p1.c4, .slice p1.a5 S.ch.length p1.c5], .slice A L.length c] w4 (fun e w' => ∃ p2 B d, e = .returned (.tuple #[.agg #[.slice p2.a0 Syst.none.th.length p2.c0, .slice p2.a1 Syst.none.at_.length p2.c1, .slice p2.a2 Syst.none.su.length p2.c2, .slice p2.a3 Syst.none.lo.length p2.c3, .slice p2.a4 Syst.none.ce.length p2.c4, .slice p2.a5 Syst.none.ch.length p2.c5], .slice B 0 d, .int .i64 1]) ∧ SysC w' Syst.none p2 ∧ Below w4.heap.size w4 w')) := ⟨(xRun_calls (fun _ => false) S p1 A c L w4 (HS1.out.up (hid_none _)) (fun k hk => by cases hk) HSD.out HL4.out (by have := HL60.out; omega)).mono (by
      rintro e w' ⟨p2, v, rfl, hs, hrow, hb⟩
      have e1 : xRun S L = (Syst.none, []) := by unfold xRun; rw [hr]; rfl
      rw [e1] at hs hrow ⊢
      rw [hr]
      obtain ⟨B, d, rfl⟩ := row_slice hrow
      exact ⟨p2, B, d, rfl, hs.up (hid_up _ _), hb⟩)⟩
    have HRR := Aside0.mk hr
    clear hr
    go_wp2_with (first
      | (go_at_call 9; refine HRUN.out.mono ?_; rintro e w5 ⟨p2, B, d, rfl, hs, hb⟩; have hal : Below w5.heap.size w5 (w5.alloc (.cells #[.slice p2.a0 Syst.none.th.length p2.c0, .slice p2.a1 Syst.none.at_.length p2.c1, .slice p2.a2 Syst.none.su.length p2.c2, .slice p2.a3 Syst.none.lo.length p2.c3, .slice p2.a4 Syst.none.ce.length p2.c4, .slice p2.a5 Syst.none.ch.length p2.c5] 26)) := (Below.refl _ _).alloc (Nat.le_refl _) _; have H5 := Aside0.mk (blk_new w5 (.cells #[.slice p2.a0 Syst.none.th.length p2.c0, .slice p2.a1 Syst.none.at_.length p2.c1, .slice p2.a2 Syst.none.su.length p2.c2, .slice p2.a3 Syst.none.lo.length p2.c3, .slice p2.a4 Syst.none.ce.length p2.c4, .slice p2.a5 Syst.none.ch.length p2.c5] 26)); have HM := Aside0.mk (hs.below hal); replace HG := Aside0.mk (blk_below HG.out hb); replace HS1 := Aside0.mk (HS1.out.below hb); replace HB := Aside0.mk (HB.out.trans (hb.mono HB.out.size)); replace hb := hal; replace HG := Aside0.mk (blk_below HG.out hb); replace HS1 := Aside0.mk (HS1.out.below hb); replace HB := Aside0.mk (HB.out.trans (hb.mono HB.out.size)); clear q0 q1 q2 q3 q4 q5 hb hal hs; obtain ⟨q0, q1, q2, q3, q4, q5⟩ := six_cells HG.out; obtain ⟨z0, z1, z2, z3, z4, z5⟩ := six_cells H5.out)
      | (go_at_call 10; refine (HRC.out _ _ HRR.out HS1.out).mono ?_; rintro e w6 ⟨rfl, hb⟩; replace HG := Aside0.mk (blk_below HG.out hb); replace HS1 := Aside0.mk (HS1.out.below hb); replace HB := Aside0.mk (HB.out.trans (hb.mono HB.out.size)); replace H5 := Aside0.mk (blk_below H5.out hb); replace HM := Aside0.mk (HM.out.below hb); clear q0 q1 q2 q3 q4 q5 z0 z1 z2 z3 z4 z5 hb; obtain ⟨q0, q1, q2, q3, q4, q5⟩ := six_cells HG.out; obtain ⟨z0, z1, z2, z3, z4, z5⟩ := six_cells H5.out)
      | (go_at_call 11; refine (alive_calls _).mono ?_; rintro e w7 ⟨rfl, hb⟩; replace HG := Aside0.mk (blk_below HG.out hb); replace HS1 := Aside0.mk (HS1.out.below hb); replace HB := Aside0.mk (HB.out.trans (hb.mono HB.out.size)); replace H5 := Aside0.mk (blk_below H5.out hb); replace HM := Aside0.mk (HM.out.below hb); clear q0 q1 q2 q3 q4 q5 z0 z1 z2 z3 z4 z5 hb; obtain ⟨q0, q1, q2, q3, q4, q5⟩ := six_cells HG.out; obtain ⟨z0, z1, z2, z3, z4, z5⟩ := six_cells H5.out)
      | (go_at_call 12; refine (sameC Syst.none p2 Ad.none _ HM.out (SysC_none _) noneBd).mono ?_; rintro e w8 ⟨rfl, hb⟩; replace HB := Aside0.mk (HB.out.trans (hb.mono HB.out.size)); clear hb))
    go_ret
    exact ⟨rfl, HB.out⟩
  | true =>
    have HSH := Aside0.mk (right_shp hr)
    have hx : xRun S L = runS S L := by unfold xRun; rw [if_pos hr]
    have HRUN : Aside0 (Calls Try.prog 9 #[.agg #[.slice p1.a0 S.th.length p1.c0, .slice p1.a1 S.at_.length p1.c1, .slice p1.a2 S.su.length p1.c2, .slice p1.a3 S.lo.length p1.c3, .slice p1.a4 S.ce.length p1.c4, .slice p1.a5 S.ch.length p1.c5], .slice A L.length c] w4 (fun e w' => ∃ p2 B d, e = .returned (.tuple #[.agg (sysA (runS S L).1 p2), .slice B (runS S L).2.length d, .int .i64 0]) ∧ SysC w' (runS S L).1 p2 ∧ RowI w' w4.heap.size (.slice B (runS S L).2.length d) (runS S L).2 ∧ Below w4.heap.size w4 w')) := ⟨(xRun_calls (fun _ => false) S p1 A c L w4 (HS1.out.up (hid_none _)) (fun k hk => by cases hk) HSD.out HL4.out (by have := HL60.out; omega)).mono (by
      rintro e w' ⟨p2, v, rfl, hs, hrow, hb⟩
      rw [hx] at hs hrow ⊢
      rw [hr]
      obtain ⟨B, d, rfl⟩ := row_slice hrow
      exact ⟨p2, B, d, rfl, hs.up (hid_up _ _), hrow, hb⟩)⟩
    have HRS := Aside0.mk (runTo_shp HSH.out L L.length).1
    have HRL := Aside0.mk (runTo_len S L L.length)
    rw [runTo_all] at HRS HRL
    have HREF : Aside0 (∀ W, Below w4.heap.size w4 W → Calls Try.prog 13 #[.agg #[.slice p1.a0 S.th.length p1.c0, .slice p1.a1 S.at_.length p1.c1, .slice p1.a2 S.su.length p1.c2, .slice p1.a3 S.lo.length p1.c3, .slice p1.a4 S.ce.length p1.c4, .slice p1.a5 S.ch.length p1.c5], .slice A L.length c] W (fun e w' => ∃ p3 E d2, e = .returned (.agg #[.slice p3.a0 (runS S L).1.th.length p3.c0, .slice p3.a1 (runS S L).1.at_.length p3.c1, .slice p3.a2 (runS S L).1.su.length p3.c2, .slice p3.a3 (runS S L).1.lo.length p3.c3, .slice p3.a4 (runS S L).1.ce.length p3.c4, .slice p3.a5 (runS S L).1.ch.length p3.c5, .slice E (runS S L).2.length d2]) ∧ SysC w' (runS S L).1 p3 ∧ CI w' E (runS S L).2 ∧ (runS S L).2.length ≤ d2 ∧ Below W.heap.size W w')) := ⟨fun W h => (refRun_calls (fun _ => false) S p1 A c L W ((HS1.out.below h).up (hid_none _)) (fun k hk => by cases hk) HSH.out (Kd.C_below HL4.out h) (by have := HL60.out; omega)).mono (by
      rintro e w' ⟨p3, E, d2, rfl, hs, hrow, hb⟩
      exact ⟨p3, E, d2, rfl, hs.up (hid_up _ _), (rowI_CI hrow).1, (rowI_CI hrow).2, hb⟩)⟩
    have HRR := Aside0.mk hr
    clear hr hx
    generalize runS S L = r at *
    obtain ⟨M, went⟩ := r
    dsimp only at HRUN HRS HRL HREF
    unfold sysA at HRUN
    have HMB := Aside0.mk (shp_bd HRS.out)
    have HX : Aside0 (Below w4.heap.size w4 w4) := ⟨Below.refl _ _⟩
    go_wp2_with (first
      | (go_at_call 9; refine HRUN.out.mono ?_; rintro e w5 ⟨p2, B, d, rfl, hs, hrow, hb⟩; have hal : Below w5.heap.size w5 (w5.alloc (.cells #[.slice p2.a0 M.th.length p2.c0, .slice p2.a1 M.at_.length p2.c1, .slice p2.a2 M.su.length p2.c2, .slice p2.a3 M.lo.length p2.c3, .slice p2.a4 M.ce.length p2.c4, .slice p2.a5 M.ch.length p2.c5] 26)) := (Below.refl _ _).alloc (Nat.le_refl _) _; have H5 := Aside0.mk (blk_new w5 (.cells #[.slice p2.a0 M.th.length p2.c0, .slice p2.a1 M.at_.length p2.c1, .slice p2.a2 M.su.length p2.c2, .slice p2.a3 M.lo.length p2.c3, .slice p2.a4 M.ce.length p2.c4, .slice p2.a5 M.ch.length p2.c5] 26)); have HM := Aside0.mk (hs.below hal); have HWD := Aside0.mk (rowI_CI hrow).2; have HWR := Aside0.mk (Kd.C_below (rowI_CI hrow).1 hal); replace HG := Aside0.mk (blk_below HG.out hb); replace HS1 := Aside0.mk (HS1.out.below hb); replace HB := Aside0.mk (HB.out.trans (hb.mono HB.out.size)); replace HX := Aside0.mk (HX.out.trans (hb.mono HX.out.size)); replace hb := hal; replace HG := Aside0.mk (blk_below HG.out hb); replace HS1 := Aside0.mk (HS1.out.below hb); replace HB := Aside0.mk (HB.out.trans (hb.mono HB.out.size)); replace HX := Aside0.mk (HX.out.trans (hb.mono HX.out.size)); clear q0 q1 q2 q3 q4 q5 hb hal hs hrow; obtain ⟨q0, q1, q2, q3, q4, q5⟩ := six_cells HG.out; obtain ⟨z0, z1, z2, z3, z4, z5⟩ := six_cells H5.out)
      | (go_at_call 10; refine (HRC.out _ _ HRR.out HS1.out).mono ?_; rintro e w6 ⟨rfl, hb⟩; replace HG := Aside0.mk (blk_below HG.out hb); replace HS1 := Aside0.mk (HS1.out.below hb); replace HB := Aside0.mk (HB.out.trans (hb.mono HB.out.size)); replace H5 := Aside0.mk (blk_below H5.out hb); replace HM := Aside0.mk (HM.out.below hb); replace HX := Aside0.mk (HX.out.trans (hb.mono HX.out.size)); replace HWR := Aside0.mk (Kd.C_below HWR.out hb); clear q0 q1 q2 q3 q4 q5 z0 z1 z2 z3 z4 z5 hb; obtain ⟨q0, q1, q2, q3, q4, q5⟩ := six_cells HG.out; obtain ⟨z0, z1, z2, z3, z4, z5⟩ := six_cells H5.out)
      | (go_at_call 13; refine (HREF.out _ HX.out).mono ?_; rintro e w7 ⟨p3, E, d2, rfl, hs, hci, hd2, hb⟩; have hal : Below w7.heap.size w7 (w7.alloc (.cells #[.slice p3.a0 M.th.length p3.c0, .slice p3.a1 M.at_.length p3.c1, .slice p3.a2 M.su.length p3.c2, .slice p3.a3 M.lo.length p3.c3, .slice p3.a4 M.ce.length p3.c4, .slice p3.a5 M.ch.length p3.c5, .slice E went.length d2] 35)) := (Below.refl _ _).alloc (Nat.le_refl _) _; have H8 := Aside0.mk (blk_new w7 (.cells #[.slice p3.a0 M.th.length p3.c0, .slice p3.a1 M.at_.length p3.c1, .slice p3.a2 M.su.length p3.c2, .slice p3.a3 M.lo.length p3.c3, .slice p3.a4 M.ce.length p3.c4, .slice p3.a5 M.ch.length p3.c5, .slice E went.length d2] 35)); have HM3 := Aside0.mk (hs.below hal); have HED := Aside0.mk hd2; have HEC := Aside0.mk (Kd.C_below hci hal); replace HG := Aside0.mk (blk_below HG.out hb); replace HS1 := Aside0.mk (HS1.out.below hb); replace HB := Aside0.mk (HB.out.trans (hb.mono HB.out.size)); replace H5 := Aside0.mk (blk_below H5.out hb); replace HM := Aside0.mk (HM.out.below hb); replace HWR := Aside0.mk (Kd.C_below HWR.out hb); replace hb := hal; replace HG := Aside0.mk (blk_below HG.out hb); replace HS1 := Aside0.mk (HS1.out.below hb); replace HB := Aside0.mk (HB.out.trans (hb.mono HB.out.size)); replace H5 := Aside0.mk (blk_below H5.out hb); replace HM := Aside0.mk (HM.out.below hb); replace HWR := Aside0.mk (Kd.C_below HWR.out hb); clear q0 q1 q2 q3 q4 q5 z0 z1 z2 z3 z4 z5 hb hal hs hci hd2; obtain ⟨z0, z1, z2, z3, z4, z5⟩ := six_cells H5.out; obtain ⟨y0, y1, y2, y3, y4, y5, y6⟩ := sev_cells H8.out)
      | (go_at_call 11; refine (alive_calls _).mono ?_; rintro e w9 ⟨rfl, hb⟩; replace HG := Aside0.mk (blk_below HG.out hb); replace HS1 := Aside0.mk (HS1.out.below hb); replace HB := Aside0.mk (HB.out.trans (hb.mono HB.out.size)); replace H5 := Aside0.mk (blk_below H5.out hb); replace HM := Aside0.mk (HM.out.below hb); replace HWR := Aside0.mk (Kd.C_below HWR.out hb); replace H8 := Aside0.mk (blk_below H8.out hb); replace HM3 := Aside0.mk (HM3.out.below hb); replace HEC := Aside0.mk (Kd.C_below HEC.out hb); clear z0 z1 z2 z3 z4 z5 y0 y1 y2 y3 y4 y5 y6 hb; obtain ⟨z0, z1, z2, z3, z4, z5⟩ := six_cells H5.out; obtain ⟨y0, y1, y2, y3, y4, y5, y6⟩ := sev_cells H8.out)
      | (go_at_call 12; refine (sameC M p2 p3 _ HM.out HM3.out HMB.out).mono ?_; rintro e wA ⟨rfl, hb⟩; replace HG := Aside0.mk (blk_below HG.out hb); replace HS1 := Aside0.mk (HS1.out.below hb); replace HB := Aside0.mk (HB.out.trans (hb.mono HB.out.size)); replace H5 := Aside0.mk (blk_below H5.out hb); replace HM := Aside0.mk (HM.out.below hb); replace HWR := Aside0.mk (Kd.C_below HWR.out hb); replace H8 := Aside0.mk (blk_below H8.out hb); replace HEC := Aside0.mk (Kd.C_below HEC.out hb); clear z0 z1 z2 z3 z4 z5 y0 y1 y2 y3 y4 y5 y6 hb; obtain ⟨z0, z1, z2, z3, z4, z5⟩ := six_cells H5.out; obtain ⟨y0, y1, y2, y3, y4, y5, y6⟩ := sev_cells H8.out)
      | (go_at_call 14; refine (numC B E d d2 went _ HWR.out HWD.out HEC.out HED.out (by have := HRL.out; have := HL60.out; omega)).mono ?_; rintro e wB ⟨rfl, hb⟩; replace HB := Aside0.mk (HB.out.trans (hb.mono HB.out.size)); clear hb))
    go_ret
    exact ⟨rfl, HB.out⟩
end Go.Proofs.Ythnimpbcfegmjaa.Own

/-
  The law SchedMakes, walked by hand: a system of any threads, which may be, and which two are the same, is as the document says, or refused.
-/
import Derived.Test.YthnimpbcfegmjaaA5
import Derived.Test.YthnimpbcfegmjaaA3
namespace Go.Proofs.Ythnimpbcfegmjaa.Own
open Go.RowKit Go.Proofs.YthnimpbcfegmjaaW.PrintWords Go.Proofs.YthnimpbcfegmjaaW.PrintLast Go.Proofs.YthnimpbcfegmjaaW.PrintMore Go.Proofs.Ythnimpbcfegmjaa.P Go.Proofs.Ythnimpbcfegmjaa.Model
set_option linter.unusedVariables false
set_option linter.unusedSimpArgs false
attribute [local go_sem] max2_int min2_int max_two min_two max_three min_three max_four min_four

theorem rows_calls2 (Q : Nat → Bool) (A : Option Addr) (c : Nat) (l : List (List S44)) (w : World) (hC : CT (hid Q w) A l) (hc : l.length ≤ c) (hQ : ∀ k, Q k = true → k < w.heap.size) : Calls Try.prog 19 #[.slice A l.length c] w (fun e w' => ∃ A1 c1, e = .returned (.slice A1 (rowsL l).length c1) ∧ (rowsL l).length ≤ c1 ∧ CT (hid Q w') A1 (rowsL l) ∧ Below w.heap.size w w') :=
  (downpourlaw20_rows.calls 11 _ A c l (rowsL l) w (V_of_hid hC hc (Below.refl _ _)) (rows_f _ _ (by decide))).mono (by
    rintro e w' ⟨v0, rfl, hN, hb2⟩
    obtain ⟨A1, c1, rfl, h1, h2⟩ := hid_of_N hN (fun k hk => by
      rcases hk with hk | hk
      · exact hk.1
      · cases hq : Q k with
        | false => rfl
        | true => have := hQ k hq; omega)
    exact ⟨A1, c1, rfl, h1, h2, hb2⟩)
/-- A call answers this truth, now and later. -/
def Says (f : Nat) (xs : Array Value) (v : Bool) (W : World) : Prop := ∀ W', Below W.heap.size W W' → Calls Try.prog f xs W' (fun e u => e = .returned (.bool v) ∧ Below W'.heap.size W' u)
theorem refRight_calls (s : Syst) (p : Ad) (W : World) (h : SysC W s p) (hb : Bd s) : Calls Try.prog 10 #[.agg #[.slice p.a0 s.th.length p.c0, .slice p.a1 s.at_.length p.c1, .slice p.a2 s.su.length p.c2, .slice p.a3 s.lo.length p.c3, .slice p.a4 s.ce.length p.c4, .slice p.a5 s.ch.length p.c5]] W (fun e w' => e = .returned (.bool (rightB s)) ∧ Below W.heap.size W w') :=
  downpourref20_Right.calls 4000 p.a0 p.c0 s.th p.a1 p.c1 s.at_ p.a2 p.c2 s.su p.a3 p.c3 s.lo p.a4 p.c4 s.ce p.a5 p.c5 s.ch (rightB s) W h.r0 h.h0 h.r1 h.h1 h.r2 h.h2 h.r3 h.h3 h.r4 h.h4 h.r5 h.h5 (right_f s hb)
theorem refSame_calls (s r : Syst) (p q : Ad) (W : World) (h1 : SysC W s p) (h2 : SysC W r q) (hb : Bd s) : Calls Try.prog 12 #[.agg #[.slice p.a0 s.th.length p.c0, .slice p.a1 s.at_.length p.c1, .slice p.a2 s.su.length p.c2, .slice p.a3 s.lo.length p.c3, .slice p.a4 s.ce.length p.c4, .slice p.a5 s.ch.length p.c5], .agg #[.slice q.a0 r.th.length q.c0, .slice q.a1 r.at_.length q.c1, .slice q.a2 r.su.length q.c2, .slice q.a3 r.lo.length q.c3, .slice q.a4 r.ce.length q.c4, .slice q.a5 r.ch.length q.c5]] W (fun e w' => e = .returned (.bool (sameB s r)) ∧ Below W.heap.size W w') :=
  downpourref20_Same.calls 1000 p.a0 p.c0 s.th p.a1 p.c1 s.at_ p.a2 p.c2 s.su p.a3 p.c3 s.lo p.a4 p.c4 s.ce p.a5 p.c5 s.ch q.a0 q.c0 r.th q.a1 q.c1 r.at_ q.a2 q.c2 r.su q.a3 q.c3 r.lo q.a4 q.c4 r.ce q.a5 q.c5 r.ch (sameB s r) W h1.r0 h1.h0 h1.r1 h1.h1 h1.r2 h1.h2 h1.r3 h1.h3 h1.r4 h1.h4 h1.r5 h1.h5 h2.r0 h2.h0 h2.r1 h2.h1 h2.r2 h2.h2 h2.r3 h2.h3 h2.r4 h2.h4 h2.r5 h2.h5 (same_eq s r hb)
theorem build26n (W : World) : (Instr.build 26 #[]).run Try.prog W = .ok (.agg #[.slice none 0 0, .slice none 0 0, .slice none 0 0, .slice none 0 0, .slice none 0 0, .slice none 0 0]) W := by
  go_simp
theorem none_bd : Bd Syst.none := by
  constructor <;> simp [Syst.none]
theorem rowsL_each (l : List (List S44)) : ∀ t : List S44, t ∈ rowsL l → t.length ≤ 18 := by
  intro t ht
  unfold rowsL at ht
  obtain ⟨x, -, rfl⟩ := List.mem_map.1 ht
  rw [List.length_take]
  omega
set_option maxRecDepth 100000 in
set_option maxHeartbeats 16000000 in
theorem makesLaw_calls (A : Option Addr) (c : Nat) (l : List (List S44)) (a b : Syst) (p q : Ad) (w : World) (hl : CT w A l) (hlc : l.length ≤ c) (hCa : SysC w a p) (hCb : SysC w b q) : Calls Try.prog 5 #[.slice A l.length c, .agg (sysA a p), .agg (sysA b q)] w (fun e w' => e = .returned (.bool true) ∧ Below w.heap.size w w') := by
  have hB1 : Below w.heap.size w (w.alloc (.cells (sysA a p) 26)) := (Below.refl _ _).alloc (Nat.le_refl _) _
  have hB2 := hB1.alloc hB1.size (.cells (sysA b q) 26)
  have HW := Aside0.mk hB2
  have HA : Aside0 (((w.alloc (.cells (sysA a p) 26)).alloc (.cells (sysA b q) 26)).heap[w.heap.size]? = some (.cells (sysA a p) 26 (0, 0))) := ⟨blk_alloc (blk_new w _) _⟩
  have HB : Aside0 (((w.alloc (.cells (sysA a p) 26)).alloc (.cells (sysA b q) 26)).heap[w.heap.size + 1]? = some (.cells (sysA b q) 26 (0, 0))) := ⟨by
    have h1 := blk_new (w.alloc (.cells (sysA a p) 26)) (.cells (sysA b q) 26)
    rw [alloc_size] at h1
    exact h1⟩
  obtain ⟨Q, hQ⟩ : ∃ Q : Nat → Bool, Q = fun k => k == w.heap.size || k == w.heap.size + 1 := ⟨_, rfl⟩
  have HQA : Aside0 (Q w.heap.size = true) := ⟨by simp [hQ]⟩
  have HQB : Aside0 (Q (w.heap.size + 1) = true) := ⟨by simp [hQ]⟩
  have hQ2 : ∀ k, Q k = true → k = w.heap.size ∨ k = w.heap.size + 1 := fun k hk => by
    subst hQ
    simpa [Bool.or_eq_true, beq_iff_eq] using hk
  have hup : Up w (hid Q ((w.alloc (.cells (sysA a p) 26)).alloc (.cells (sysA b q) 26))) := up_new hB2 (fun k hk => by have := hQ2 k hk; omega)
  have HQL : Aside0 (∀ k, Q k = true → k < ((w.alloc (.cells (sysA a p) 26)).alloc (.cells (sysA b q) 26)).heap.size) := ⟨fun k hk => by rw [alloc_size, alloc_size]; have := hQ2 k hk; omega⟩
  have HSA := Aside0.mk (hCa.up hup)
  have HSB := Aside0.mk (hCb.up hup)
  have HL := Aside0.mk (CT_up hl hup)
  have HLc := Aside0.mk hlc
  have HNE : Aside0 (w.heap.size + 1 ≠ w.heap.size) := ⟨Nat.succ_ne_self _⟩
  have HGA : Aside0 (w.heap.size ≤ w.heap.size) := ⟨Nat.le_refl _⟩
  have HGB : Aside0 (w.heap.size ≤ w.heap.size + 1) := ⟨Nat.le_succ _⟩
  clear hQ hQ2 hup hB1 hB2 hl hlc hCa hCb
  unfold sysA at *
  go_enter Try.func5, Try.ntmps5
  go_wp2
  generalize (w.alloc (.cells #[.slice p.a0 a.th.length p.c0, .slice p.a1 a.at_.length p.c1, .slice p.a2 a.su.length p.c2, .slice p.a3 a.lo.length p.c3, .slice p.a4 a.ce.length p.c4, .slice p.a5 a.ch.length p.c5] 26)).alloc (.cells #[.slice q.a0 b.th.length q.c0, .slice q.a1 b.at_.length q.c1, .slice q.a2 b.su.length q.c2, .slice q.a3 b.lo.length q.c3, .slice q.a4 b.ce.length q.c4, .slice q.a5 b.ch.length q.c5] 26) = W0 at *
  generalize hgB : w.heap.size + 1 = gB at *
  clear hgB
  obtain ⟨gA, hgA⟩ : ∃ gA, gA = w.heap.size := ⟨_, rfl⟩
  rw [← hgA] at HA HNE HQA ⊢
  replace HGA : Aside0 (w.heap.size ≤ gA) := ⟨Nat.le_of_eq hgA.symm⟩
  clear hgA
  obtain ⟨q0, q1, q2, q3, q4, q5⟩ := six_cells HA.out
  obtain ⟨z0, z1, z2, z3, z4, z5⟩ := six_cells HB.out
  refine start_ (n := 9) (S := fun w' => w'.cell? ⟨gA, 0, none⟩ = some (.slice p.a0 a.th.length p.c0) ∧ w'.cell? ⟨gA, 1, none⟩ = some (.slice p.a1 a.at_.length p.c1) ∧ w'.cell? ⟨gA, 2, none⟩ = some (.slice p.a2 a.su.length p.c2) ∧ w'.cell? ⟨gA, 3, none⟩ = some (.slice p.a3 a.lo.length p.c3) ∧ w'.cell? ⟨gA, 4, none⟩ = some (.slice p.a4 a.ce.length p.c4) ∧ w'.cell? ⟨gA, 5, none⟩ = some (.slice p.a5 a.ch.length p.c5) ∧ w'.cell? ⟨gB, 0, none⟩ = some (.slice q.a0 b.th.length q.c0) ∧ w'.cell? ⟨gB, 1, none⟩ = some (.slice q.a1 b.at_.length q.c1) ∧ w'.cell? ⟨gB, 2, none⟩ = some (.slice q.a2 b.su.length q.c2) ∧ w'.cell? ⟨gB, 3, none⟩ = some (.slice q.a3 b.lo.length q.c3) ∧ w'.cell? ⟨gB, 4, none⟩ = some (.slice q.a4 b.ce.length q.c4) ∧ w'.cell? ⟨gB, 5, none⟩ = some (.slice q.a5 b.ch.length q.c5)) (ds := [7, 8]) #[false, false, false, false, false, false, false, false, false] (by kernel_rfl) rfl rfl ⟨q0, q1, q2, q3, q4, q5, z0, z1, z2, z3, z4, z5⟩ (fun hHeld => ?_)
  have hb : Below W0.heap.size W0 W0.drew := below_drew (Below.refl _ _)
  replace HA := Aside0.mk (blk_below HA.out hb)
  replace HB := Aside0.mk (blk_below HB.out hb)
  replace HSA := Aside0.mk (HSA.out.up (up_hid hb (fun _ _ h => h)))
  replace HSB := Aside0.mk (HSB.out.up (up_hid hb (fun _ _ h => h)))
  replace HL := Aside0.mk (CT_up HL.out (up_hid hb (fun _ _ h => h)))
  replace HQL := Aside0.mk (fun k hk => Nat.lt_of_lt_of_le (HQL.out k hk) hb.size)
  replace HW := Aside0.mk (HW.out.trans (hb.mono HW.out.size))
  clear hb
  clear q0 q1 q2 q3 q4 q5 z0 z1 z2 z3 z4 z5
  generalize W0.drew = W1 at *
  refine pure_ (i := 0) (N := some 10) (v := ?_) (a' := ?_) #[true, false, false, false, false, false, false, false, false] rfl rfl (by kernel_rfl) (fun _ _ _ h => h) (Or.inl ⟨by rfl, ?_⟩) ?_ ?_
  rotate_left
  · intro w'
    go_simp
    with_reducible rfl
  rotate_left
  · simp only [Act.put, List.setIfInBounds_toArray, List.set_cons_zero, List.set_cons_succ, i64_w, i32_w]
    rfl
  refine take_ (i := 2) (N := some 12) (v := ?_) (a' := ?_) #[true, false, true, false, false, false, false, false, false] rfl rfl (by kernel_rfl) (fun _ _ _ h => h) (Or.inl ⟨by rfl, ?_⟩) hHeld ?_ ?_
  rotate_left
  · rintro w' ⟨s0, s1, s2, s3, s4, s5, s6, s7, s8, s9, s10, s11⟩
    go_simp
    with_reducible rfl
  rotate_left
  · simp only [Act.put, List.setIfInBounds_toArray, List.set_cons_zero, List.set_cons_succ, i64_w, i32_w]
    rfl
  refine take_ (i := 4) (N := some 14) (v := ?_) (a' := ?_) #[true, false, true, false, true, false, false, false, false] rfl rfl (by kernel_rfl) (fun _ _ _ h => h) (Or.inl ⟨by rfl, ?_⟩) hHeld ?_ ?_
  rotate_left
  · rintro w' ⟨s0, s1, s2, s3, s4, s5, s6, s7, s8, s9, s10, s11⟩
    go_simp
    with_reducible rfl
  rotate_left
  · simp only [Act.put, List.setIfInBounds_toArray, List.set_cons_zero, List.set_cons_succ, i64_w, i32_w]
    rfl
  refine one_ (i := 1) (N := some 11) #[true, true, true, false, true, false, false, false, false] rfl rfl (by kernel_rfl) (by decide) (fun K hK => ?_)
  refine goes_ Try.func19 (by kernel_rfl) rfl #[.slice A l.length c] (by rfl) rfl rfl (by (try simp only [List.map_toArray, List.map_cons, List.map_nil]); first | done | rfl) ?_
  refine (rows_calls2 Q A c l _ HL.out HLc.out HQL.out).mono ?_
  rintro e u1 ⟨A1, c1, rfl, hc1, hl1, hb⟩
  refine ⟨_, rfl, ?_⟩
  refine hK.out _ _ ⟨pw_cell_below hb (hHeld.1), pw_cell_below hb (hHeld.2.1), pw_cell_below hb (hHeld.2.2.1), pw_cell_below hb (hHeld.2.2.2.1), pw_cell_below hb (hHeld.2.2.2.2.1), pw_cell_below hb (hHeld.2.2.2.2.2.1), pw_cell_below hb (hHeld.2.2.2.2.2.2.1), pw_cell_below hb (hHeld.2.2.2.2.2.2.2.1), pw_cell_below hb (hHeld.2.2.2.2.2.2.2.2.1), pw_cell_below hb (hHeld.2.2.2.2.2.2.2.2.2.1), pw_cell_below hb (hHeld.2.2.2.2.2.2.2.2.2.2.1), pw_cell_below hb (hHeld.2.2.2.2.2.2.2.2.2.2.2)⟩ (fun hHeld => ?_)
  clear HL
  replace HA := Aside0.mk (blk_below HA.out hb)
  replace HB := Aside0.mk (blk_below HB.out hb)
  replace HSA := Aside0.mk (HSA.out.up (up_hid hb (fun _ _ h => h)))
  replace HSB := Aside0.mk (HSB.out.up (up_hid hb (fun _ _ h => h)))
  replace HQL := Aside0.mk (fun k hk => Nat.lt_of_lt_of_le (HQL.out k hk) hb.size)
  replace HW := Aside0.mk (HW.out.trans (hb.mono HW.out.size))
  have HL := Aside0.mk hl1
  have HLc1 := Aside0.mk hc1
  clear hl1 hc1 hb
  clear hK K
  refine norm_ (a' := ?_) ?_ ?_
  rotate_left
  · show Act.put _ (some 11) _ = _
    simp only [Act.put, List.setIfInBounds_toArray, List.set_cons_zero, List.set_cons_succ, i64_w, i32_w]
    rfl
  refine one_ (i := 3) (N := some 13) #[true, true, true, true, true, false, false, false, false] rfl rfl (by kernel_rfl) (by decide) (fun K hK => ?_)
  refine goes_ Try.func8 (by kernel_rfl) rfl #[.agg #[.slice p.a0 a.th.length p.c0, .slice p.a1 a.at_.length p.c1, .slice p.a2 a.su.length p.c2, .slice p.a3 a.lo.length p.c3, .slice p.a4 a.ce.length p.c4, .slice p.a5 a.ch.length p.c5]] (by rfl) rfl rfl (by (try simp only [List.map_toArray, List.map_cons, List.map_nil]); first | done | rfl) ?_
  refine (few_calls Q a p _ HSA.out HQL.out).mono ?_
  rintro e u2 ⟨p1, rfl, hs, hb⟩
  refine ⟨_, rfl, ?_⟩
  refine hK.out _ _ ⟨pw_cell_below hb (hHeld.1), pw_cell_below hb (hHeld.2.1), pw_cell_below hb (hHeld.2.2.1), pw_cell_below hb (hHeld.2.2.2.1), pw_cell_below hb (hHeld.2.2.2.2.1), pw_cell_below hb (hHeld.2.2.2.2.2.1), pw_cell_below hb (hHeld.2.2.2.2.2.2.1), pw_cell_below hb (hHeld.2.2.2.2.2.2.2.1), pw_cell_below hb (hHeld.2.2.2.2.2.2.2.2.1), pw_cell_below hb (hHeld.2.2.2.2.2.2.2.2.2.1), pw_cell_below hb (hHeld.2.2.2.2.2.2.2.2.2.2.1), pw_cell_below hb (hHeld.2.2.2.2.2.2.2.2.2.2.2)⟩ (fun hHeld => ?_)
  clear HSA
  replace HA := Aside0.mk (blk_below HA.out hb)
  replace HB := Aside0.mk (blk_below HB.out hb)
  replace HSB := Aside0.mk (HSB.out.up (up_hid hb (fun _ _ h => h)))
  replace HL := Aside0.mk (CT_up HL.out (up_hid hb (fun _ _ h => h)))
  replace HQL := Aside0.mk (fun k hk => Nat.lt_of_lt_of_le (HQL.out k hk) hb.size)
  replace HW := Aside0.mk (HW.out.trans (hb.mono HW.out.size))
  have HSA := Aside0.mk hs
  obtain ⟨a1, ea⟩ : ∃ a1, fewS a = a1 := ⟨_, rfl⟩
  have HBA : Aside0 (Bd a1) := ⟨by rw [← ea]; exact few_bd a⟩
  rw [ea] at HSA ⊢
  clear ea hs hb
  unfold sysA
  clear hK K
  refine norm_ (a' := ?_) ?_ ?_
  rotate_left
  · show Act.put _ (some 13) _ = _
    simp only [Act.put, List.setIfInBounds_toArray, List.set_cons_zero, List.set_cons_succ, i64_w, i32_w]
    rfl
  refine one_ (i := 5) (N := some 15) #[true, true, true, true, true, true, false, false, false] rfl rfl (by kernel_rfl) (by decide) (fun K hK => ?_)
  refine goes_ Try.func8 (by kernel_rfl) rfl #[.agg #[.slice q.a0 b.th.length q.c0, .slice q.a1 b.at_.length q.c1, .slice q.a2 b.su.length q.c2, .slice q.a3 b.lo.length q.c3, .slice q.a4 b.ce.length q.c4, .slice q.a5 b.ch.length q.c5]] (by rfl) rfl rfl (by (try simp only [List.map_toArray, List.map_cons, List.map_nil]); first | done | rfl) ?_
  refine (few_calls Q b q _ HSB.out HQL.out).mono ?_
  rintro e u3 ⟨p2, rfl, hs, hb⟩
  refine ⟨_, rfl, ?_⟩
  refine hK.out _ _ ⟨pw_cell_below hb (hHeld.1), pw_cell_below hb (hHeld.2.1), pw_cell_below hb (hHeld.2.2.1), pw_cell_below hb (hHeld.2.2.2.1), pw_cell_below hb (hHeld.2.2.2.2.1), pw_cell_below hb (hHeld.2.2.2.2.2.1), pw_cell_below hb (hHeld.2.2.2.2.2.2.1), pw_cell_below hb (hHeld.2.2.2.2.2.2.2.1), pw_cell_below hb (hHeld.2.2.2.2.2.2.2.2.1), pw_cell_below hb (hHeld.2.2.2.2.2.2.2.2.2.1), pw_cell_below hb (hHeld.2.2.2.2.2.2.2.2.2.2.1), pw_cell_below hb (hHeld.2.2.2.2.2.2.2.2.2.2.2)⟩ (fun hHeld => ?_)
  clear HSB
  replace HA := Aside0.mk (blk_below HA.out hb)
  replace HB := Aside0.mk (blk_below HB.out hb)
  replace HSA := Aside0.mk (HSA.out.up (up_hid hb (fun _ _ h => h)))
  replace HL := Aside0.mk (CT_up HL.out (up_hid hb (fun _ _ h => h)))
  replace HQL := Aside0.mk (fun k hk => Nat.lt_of_lt_of_le (HQL.out k hk) hb.size)
  replace HW := Aside0.mk (HW.out.trans (hb.mono HW.out.size))
  have HSB := Aside0.mk hs
  obtain ⟨b1, eb⟩ : ∃ b1, fewS b = b1 := ⟨_, rfl⟩
  have HBB : Aside0 (Bd b1) := ⟨by rw [← eb]; exact few_bd b⟩
  rw [eb] at HSB ⊢
  clear eb hs hb
  unfold sysA
  clear hK K
  refine norm_ (a' := ?_) ?_ ?_
  rotate_left
  · show Act.put _ (some 15) _ = _
    simp only [Act.put, List.setIfInBounds_toArray, List.set_cons_zero, List.set_cons_succ, i64_w, i32_w]
    rfl
  refine pure_ (i := 6) (N := some 0) (v := ?_) (a' := ?_) #[true, true, true, true, true, true, true, false, false] rfl rfl (by kernel_rfl) (fun _ _ _ h => h) (Or.inl ⟨by rfl, ?_⟩) ?_ ?_
  rotate_left
  · intro w'
    go_simp
    with_reducible rfl
  rotate_left
  · simp only [Act.put, List.setIfInBounds_toArray, List.set_cons_zero, List.set_cons_succ, i64_w, i32_w]
    rfl
  refine last_ (i := 7) (N := none) #[true, true, true, true, true, true, true, true, false] rfl rfl (by kernel_rfl) (by decide) (fun K hK => ?_)
  clear hHeld
  obtain ⟨q0, q1, q2, q3, q4, q5⟩ := six_cells HA.out
  obtain ⟨x0, x1, x2, x3, x4, x5⟩ := six_frozen HA.out
  refine skip_ (w1 := ?_) (by rfl) rfl ?_ ?_
  rotate_left
  · go_simp
    rfl
  refine hK.out _ _ ?_
  clear hK K
  clear q0 q1 q2 q3 q4 q5 x0 x1 x2 x3 x4 x5
  replace HA := Aside0.mk (six_put (.slice p1.a0 a1.th.length p1.c0) (.slice p1.a1 a1.at_.length p1.c1) (.slice p1.a2 a1.su.length p1.c2) (.slice p1.a3 a1.lo.length p1.c3) (.slice p1.a4 a1.ce.length p1.c4) (.slice p1.a5 a1.ch.length p1.c5) HA.out)
  replace HB := Aside0.mk (blk_six_far (g := gA) (v0 := (.slice p1.a0 a1.th.length p1.c0)) (v1 := (.slice p1.a1 a1.at_.length p1.c1)) (v2 := (.slice p1.a2 a1.su.length p1.c2)) (v3 := (.slice p1.a3 a1.lo.length p1.c3)) (v4 := (.slice p1.a4 a1.ce.length p1.c4)) (v5 := (.slice p1.a5 a1.ch.length p1.c5)) HB.out HNE.out)
  replace HSA := Aside0.mk (HSA.out.up (hid_six HQA.out (v0 := (.slice p1.a0 a1.th.length p1.c0)) (v1 := (.slice p1.a1 a1.at_.length p1.c1)) (v2 := (.slice p1.a2 a1.su.length p1.c2)) (v3 := (.slice p1.a3 a1.lo.length p1.c3)) (v4 := (.slice p1.a4 a1.ce.length p1.c4)) (v5 := (.slice p1.a5 a1.ch.length p1.c5))))
  replace HSB := Aside0.mk (HSB.out.up (hid_six HQA.out (v0 := (.slice p1.a0 a1.th.length p1.c0)) (v1 := (.slice p1.a1 a1.at_.length p1.c1)) (v2 := (.slice p1.a2 a1.su.length p1.c2)) (v3 := (.slice p1.a3 a1.lo.length p1.c3)) (v4 := (.slice p1.a4 a1.ce.length p1.c4)) (v5 := (.slice p1.a5 a1.ch.length p1.c5))))
  replace HL := Aside0.mk (CT_up HL.out (hid_six HQA.out (v0 := (.slice p1.a0 a1.th.length p1.c0)) (v1 := (.slice p1.a1 a1.at_.length p1.c1)) (v2 := (.slice p1.a2 a1.su.length p1.c2)) (v3 := (.slice p1.a3 a1.lo.length p1.c3)) (v4 := (.slice p1.a4 a1.ce.length p1.c4)) (v5 := (.slice p1.a5 a1.ch.length p1.c5))))
  replace HW := Aside0.mk (below_six (g := gA) (v0 := (.slice p1.a0 a1.th.length p1.c0)) (v1 := (.slice p1.a1 a1.at_.length p1.c1)) (v2 := (.slice p1.a2 a1.su.length p1.c2)) (v3 := (.slice p1.a3 a1.lo.length p1.c3)) (v4 := (.slice p1.a4 a1.ce.length p1.c4)) (v5 := (.slice p1.a5 a1.ch.length p1.c5)) HW.out HGA.out)
  generalize ((((((u3.setCell ⟨gA, 0, none⟩ (.slice p1.a0 a1.th.length p1.c0)).setCell ⟨gA, 1, none⟩ (.slice p1.a1 a1.at_.length p1.c1)).setCell ⟨gA, 2, none⟩ (.slice p1.a2 a1.su.length p1.c2)).setCell ⟨gA, 3, none⟩ (.slice p1.a3 a1.lo.length p1.c3)).setCell ⟨gA, 4, none⟩ (.slice p1.a4 a1.ce.length p1.c4)).setCell ⟨gA, 5, none⟩ (.slice p1.a5 a1.ch.length p1.c5)) = u4 at *
  refine last_ (i := 8) (N := none) #[true, true, true, true, true, true, true, true, true] rfl rfl (by kernel_rfl) (by decide) (fun K hK => ?_)
  obtain ⟨z0, z1, z2, z3, z4, z5⟩ := six_cells HB.out
  obtain ⟨x0, x1, x2, x3, x4, x5⟩ := six_frozen HB.out
  refine skip_ (w1 := ?_) (by rfl) rfl ?_ ?_
  rotate_left
  · go_simp
    rfl
  refine hK.out _ _ ?_
  clear hK K
  clear z0 z1 z2 z3 z4 z5 x0 x1 x2 x3 x4 x5
  replace HB := Aside0.mk (six_put (.slice p2.a0 b1.th.length p2.c0) (.slice p2.a1 b1.at_.length p2.c1) (.slice p2.a2 b1.su.length p2.c2) (.slice p2.a3 b1.lo.length p2.c3) (.slice p2.a4 b1.ce.length p2.c4) (.slice p2.a5 b1.ch.length p2.c5) HB.out)
  replace HA := Aside0.mk (blk_six_far (g := gB) (v0 := (.slice p2.a0 b1.th.length p2.c0)) (v1 := (.slice p2.a1 b1.at_.length p2.c1)) (v2 := (.slice p2.a2 b1.su.length p2.c2)) (v3 := (.slice p2.a3 b1.lo.length p2.c3)) (v4 := (.slice p2.a4 b1.ce.length p2.c4)) (v5 := (.slice p2.a5 b1.ch.length p2.c5)) HA.out (Ne.symm HNE.out))
  replace HSA := Aside0.mk ((HSA.out.up (hid_six HQB.out (v0 := (.slice p2.a0 b1.th.length p2.c0)) (v1 := (.slice p2.a1 b1.at_.length p2.c1)) (v2 := (.slice p2.a2 b1.su.length p2.c2)) (v3 := (.slice p2.a3 b1.lo.length p2.c3)) (v4 := (.slice p2.a4 b1.ce.length p2.c4)) (v5 := (.slice p2.a5 b1.ch.length p2.c5)))).up (hid_up _ _))
  replace HSB := Aside0.mk ((HSB.out.up (hid_six HQB.out (v0 := (.slice p2.a0 b1.th.length p2.c0)) (v1 := (.slice p2.a1 b1.at_.length p2.c1)) (v2 := (.slice p2.a2 b1.su.length p2.c2)) (v3 := (.slice p2.a3 b1.lo.length p2.c3)) (v4 := (.slice p2.a4 b1.ce.length p2.c4)) (v5 := (.slice p2.a5 b1.ch.length p2.c5)))).up (hid_up _ _))
  replace HL := Aside0.mk (CT_up (CT_up HL.out (hid_six HQB.out (v0 := (.slice p2.a0 b1.th.length p2.c0)) (v1 := (.slice p2.a1 b1.at_.length p2.c1)) (v2 := (.slice p2.a2 b1.su.length p2.c2)) (v3 := (.slice p2.a3 b1.lo.length p2.c3)) (v4 := (.slice p2.a4 b1.ce.length p2.c4)) (v5 := (.slice p2.a5 b1.ch.length p2.c5)))) (hid_up _ _))
  replace HW := Aside0.mk (below_six (g := gB) (v0 := (.slice p2.a0 b1.th.length p2.c0)) (v1 := (.slice p2.a1 b1.at_.length p2.c1)) (v2 := (.slice p2.a2 b1.su.length p2.c2)) (v3 := (.slice p2.a3 b1.lo.length p2.c3)) (v4 := (.slice p2.a4 b1.ce.length p2.c4)) (v5 := (.slice p2.a5 b1.ch.length p2.c5)) HW.out HGB.out)
  generalize ((((((u4.setCell ⟨gB, 0, none⟩ (.slice p2.a0 b1.th.length p2.c0)).setCell ⟨gB, 1, none⟩ (.slice p2.a1 b1.at_.length p2.c1)).setCell ⟨gB, 2, none⟩ (.slice p2.a2 b1.su.length p2.c2)).setCell ⟨gB, 3, none⟩ (.slice p2.a3 b1.lo.length p2.c3)).setCell ⟨gB, 4, none⟩ (.slice p2.a4 b1.ce.length p2.c4)).setCell ⟨gB, 5, none⟩ (.slice p2.a5 b1.ch.length p2.c5)) = u5 at *
  refine done_ (by kernel_rfl) ?_
  have HL1 : Aside0 ((rowsL l).length ≤ 10) := ⟨rowsL_len l⟩
  have HL2 : Aside0 (∀ t : List S44, t ∈ rowsL l → t.length ≤ 18) := ⟨rowsL_each l⟩
  generalize rowsL l = l1 at *
  clear HQL HQA HQB HNE HGA HGB HLc
  have HNB := Aside0.mk (new_bd HL1.out HL2.out)
  go_wp2_with (go_at_call 15; refine (xNew_calls (fun _ => false) A1 c1 l1 _ (CT_up HL.out (hid_none _)) HLc1.out (fun k hk => by cases hk) HL1.out HL2.out).mono ?_; rintro e v1 ⟨p7, rfl, hs, hb⟩; have HS7 := Aside0.mk (hs.up (hid_up _ _)); replace HA := Aside0.mk (blk_below HA.out hb); replace HB := Aside0.mk (blk_below HB.out hb); replace HSA := Aside0.mk (HSA.out.below hb); replace HSB := Aside0.mk (HSB.out.below hb); replace HL := Aside0.mk (CT_up HL.out (up_below hb)); replace HW := Aside0.mk (HW.out.trans (hb.mono HW.out.size)); clear hs hb; obtain ⟨r7, hr7⟩ : ∃ r7, xNew l1 = r7 := ⟨_, rfl⟩; have HR7 := Aside0.mk hr7; rw [hr7] at HS7 ⊢; clear hr7; obtain ⟨s7, c7⟩ := r7; dsimp only at HS7 ⊢; unfold sysA)
  have hb : Below v1.heap.size v1 (v1.alloc (.cells #[.slice p7.a0 s7.th.length p7.c0, .slice p7.a1 s7.at_.length p7.c1, .slice p7.a2 s7.su.length p7.c2, .slice p7.a3 s7.lo.length p7.c3, .slice p7.a4 s7.ce.length p7.c4, .slice p7.a5 s7.ch.length p7.c5] 26)) := (Below.refl _ _).alloc (Nat.le_refl _) _
  have H7 := Aside0.mk (blk_new v1 (.cells #[.slice p7.a0 s7.th.length p7.c0, .slice p7.a1 s7.at_.length p7.c1, .slice p7.a2 s7.su.length p7.c2, .slice p7.a3 s7.lo.length p7.c3, .slice p7.a4 s7.ce.length p7.c4, .slice p7.a5 s7.ch.length p7.c5] 26))
  replace HA := Aside0.mk (blk_below HA.out hb)
  replace HB := Aside0.mk (blk_below HB.out hb)
  replace HSA := Aside0.mk (HSA.out.below hb)
  replace HSB := Aside0.mk (HSB.out.below hb)
  replace HS7 := Aside0.mk (HS7.out.below hb)
  replace HL := Aside0.mk (CT_up HL.out (up_below hb))
  replace HW := Aside0.mk (HW.out.trans (hb.mono HW.out.size))
  clear hb
  generalize v1.alloc (.cells #[.slice p7.a0 s7.th.length p7.c0, .slice p7.a1 s7.at_.length p7.c1, .slice p7.a2 s7.su.length p7.c2, .slice p7.a3 s7.lo.length p7.c3, .slice p7.a4 s7.ce.length p7.c4, .slice p7.a5 s7.ch.length p7.c5] 26) = W3 at *
  generalize v1.heap.size = g7 at *
  obtain ⟨ra, hra⟩ : ∃ ra, rightB a1 = ra := ⟨_, rfl⟩
  obtain ⟨sb, hsb⟩ : ∃ sb, sameB a1 b1 = sb := ⟨_, rfl⟩
  have HR1 : Aside0 (Says 20 #[.agg #[.slice p1.a0 a1.th.length p1.c0, .slice p1.a1 a1.at_.length p1.c1, .slice p1.a2 a1.su.length p1.c2, .slice p1.a3 a1.lo.length p1.c3, .slice p1.a4 a1.ce.length p1.c4, .slice p1.a5 a1.ch.length p1.c5]] ra W3) := ⟨fun W' h => by rw [← hra]; exact right_calls a1 p1 W' (HSA.out.below h) HBA.out⟩
  have HR2 : Aside0 (Says 10 #[.agg #[.slice p1.a0 a1.th.length p1.c0, .slice p1.a1 a1.at_.length p1.c1, .slice p1.a2 a1.su.length p1.c2, .slice p1.a3 a1.lo.length p1.c3, .slice p1.a4 a1.ce.length p1.c4, .slice p1.a5 a1.ch.length p1.c5]] ra W3) := ⟨fun W' h => by rw [← hra]; exact refRight_calls a1 p1 W' (HSA.out.below h) HBA.out⟩
  have HK1 : Aside0 (Says 21 #[.agg #[.slice p1.a0 a1.th.length p1.c0, .slice p1.a1 a1.at_.length p1.c1, .slice p1.a2 a1.su.length p1.c2, .slice p1.a3 a1.lo.length p1.c3, .slice p1.a4 a1.ce.length p1.c4, .slice p1.a5 a1.ch.length p1.c5], .agg #[.slice p2.a0 b1.th.length p2.c0, .slice p2.a1 b1.at_.length p2.c1, .slice p2.a2 b1.su.length p2.c2, .slice p2.a3 b1.lo.length p2.c3, .slice p2.a4 b1.ce.length p2.c4, .slice p2.a5 b1.ch.length p2.c5]] sb W3) := ⟨fun W' h => by rw [← hsb, ← likeB_same]; exact like_calls a1 b1 p1 p2 W' (HSA.out.below h) (HSB.out.below h) HBA.out HBB.out⟩
  have HK2 : Aside0 (Says 12 #[.agg #[.slice p1.a0 a1.th.length p1.c0, .slice p1.a1 a1.at_.length p1.c1, .slice p1.a2 a1.su.length p1.c2, .slice p1.a3 a1.lo.length p1.c3, .slice p1.a4 a1.ce.length p1.c4, .slice p1.a5 a1.ch.length p1.c5], .agg #[.slice p2.a0 b1.th.length p2.c0, .slice p2.a1 b1.at_.length p2.c1, .slice p2.a2 b1.su.length p2.c2, .slice p2.a3 b1.lo.length p2.c3, .slice p2.a4 b1.ce.length p2.c4, .slice p2.a5 b1.ch.length p2.c5]] sb W3) := ⟨fun W' h => by rw [← hsb]; exact refSame_calls a1 b1 p1 p2 W' (HSA.out.below h) (HSB.out.below h) HBA.out⟩
  have HK3 : Aside0 (Says 21 #[.agg #[.slice p1.a0 a1.th.length p1.c0, .slice p1.a1 a1.at_.length p1.c1, .slice p1.a2 a1.su.length p1.c2, .slice p1.a3 a1.lo.length p1.c3, .slice p1.a4 a1.ce.length p1.c4, .slice p1.a5 a1.ch.length p1.c5], .agg #[.slice p1.a0 a1.th.length p1.c0, .slice p1.a1 a1.at_.length p1.c1, .slice p1.a2 a1.su.length p1.c2, .slice p1.a3 a1.lo.length p1.c3, .slice p1.a4 a1.ce.length p1.c4, .slice p1.a5 a1.ch.length p1.c5]] true W3) := ⟨fun W' h => by
    have h1 := like_calls a1 a1 p1 p1 W' (HSA.out.below h) (HSA.out.below h) HBA.out HBA.out
    rw [likeB_same, sameB_refl] at h1
    exact h1⟩
  have HAL : Aside0 (Says 11 #[] true W3) := ⟨fun W' h => alive_calls W'⟩
  have HX : Aside0 (Below W3.heap.size W3 W3) := ⟨Below.refl _ _⟩
  clear hra hsb HSA HSB HBA HBB
  obtain ⟨q0, q1, q2, q3, q4, q5⟩ := six_cells HA.out
  obtain ⟨z0, z1, z2, z3, z4, z5⟩ := six_cells HB.out
  refine start_ (n := 24) (S := fun w' => w'.cell? ⟨gA, 0, none⟩ = some (.slice p1.a0 a1.th.length p1.c0) ∧ w'.cell? ⟨gA, 1, none⟩ = some (.slice p1.a1 a1.at_.length p1.c1) ∧ w'.cell? ⟨gA, 2, none⟩ = some (.slice p1.a2 a1.su.length p1.c2) ∧ w'.cell? ⟨gA, 3, none⟩ = some (.slice p1.a3 a1.lo.length p1.c3) ∧ w'.cell? ⟨gA, 4, none⟩ = some (.slice p1.a4 a1.ce.length p1.c4) ∧ w'.cell? ⟨gA, 5, none⟩ = some (.slice p1.a5 a1.ch.length p1.c5) ∧ w'.cell? ⟨gB, 0, none⟩ = some (.slice p2.a0 b1.th.length p2.c0) ∧ w'.cell? ⟨gB, 1, none⟩ = some (.slice p2.a1 b1.at_.length p2.c1) ∧ w'.cell? ⟨gB, 2, none⟩ = some (.slice p2.a2 b1.su.length p2.c2) ∧ w'.cell? ⟨gB, 3, none⟩ = some (.slice p2.a3 b1.lo.length p2.c3) ∧ w'.cell? ⟨gB, 4, none⟩ = some (.slice p2.a4 b1.ce.length p2.c4) ∧ w'.cell? ⟨gB, 5, none⟩ = some (.slice p2.a5 b1.ch.length p2.c5)) (ds := []) #[false, false, false, false, false, false, false, false, false, false, false, false, false, false, false, false, false, false, false, false, false, false, false, false] (by kernel_rfl) rfl rfl ⟨q0, q1, q2, q3, q4, q5, z0, z1, z2, z3, z4, z5⟩ (fun hHeld => ?_)
  replace HX := Aside0.mk (below_drew HX.out)
  clear q0 q1 q2 q3 q4 q5 z0 z1 z2 z3 z4 z5
  generalize W3.drew = W4 at *
  refine take_ (i := 0) (N := some 21) (v := ?_) (a' := ?_) #[true, false, false, false, false, false, false, false, false, false, false, false, false, false, false, false, false, false, false, false, false, false, false, false] rfl rfl (by kernel_rfl) (fun _ _ _ h => h) (Or.inl ⟨by rfl, ?_⟩) hHeld ?_ ?_
  rotate_left
  · rintro w' ⟨s0, s1, s2, s3, s4, s5, s6, s7, s8, s9, s10, s11⟩
    go_simp
    with_reducible rfl
  rotate_left
  · simp only [Act.put, List.setIfInBounds_toArray, List.set_cons_zero, List.set_cons_succ, i64_w, i32_w]
    rfl
  refine take_ (i := 2) (N := some 23) (v := ?_) (a' := ?_) #[true, false, true, false, false, false, false, false, false, false, false, false, false, false, false, false, false, false, false, false, false, false, false, false] rfl rfl (by kernel_rfl) (fun _ _ _ h => h) (Or.inl ⟨by rfl, ?_⟩) hHeld ?_ ?_
  rotate_left
  · rintro w' ⟨s0, s1, s2, s3, s4, s5, s6, s7, s8, s9, s10, s11⟩
    go_simp
    with_reducible rfl
  rotate_left
  · simp only [Act.put, List.setIfInBounds_toArray, List.set_cons_zero, List.set_cons_succ, i64_w, i32_w]
    rfl
  refine one_ (i := 1) (N := some 22) #[true, true, true, false, false, false, false, false, false, false, false, false, false, false, false, false, false, false, false, false, false, false, false, false] rfl rfl (by kernel_rfl) (by decide) (fun K hK => ?_)
  refine goes_ Try.func20 (by kernel_rfl) rfl #[.agg #[.slice p1.a0 a1.th.length p1.c0, .slice p1.a1 a1.at_.length p1.c1, .slice p1.a2 a1.su.length p1.c2, .slice p1.a3 a1.lo.length p1.c3, .slice p1.a4 a1.ce.length p1.c4, .slice p1.a5 a1.ch.length p1.c5]] (by rfl) rfl rfl (by (try simp only [List.map_toArray, List.map_cons, List.map_nil]); first | done | rfl) ?_
  refine (HR1.out _ HX.out).mono ?_
  rintro e u ⟨rfl, hb⟩
  refine ⟨_, rfl, ?_⟩
  refine hK.out _ _ ⟨pw_cell_below hb (hHeld.1), pw_cell_below hb (hHeld.2.1), pw_cell_below hb (hHeld.2.2.1), pw_cell_below hb (hHeld.2.2.2.1), pw_cell_below hb (hHeld.2.2.2.2.1), pw_cell_below hb (hHeld.2.2.2.2.2.1), pw_cell_below hb (hHeld.2.2.2.2.2.2.1), pw_cell_below hb (hHeld.2.2.2.2.2.2.2.1), pw_cell_below hb (hHeld.2.2.2.2.2.2.2.2.1), pw_cell_below hb (hHeld.2.2.2.2.2.2.2.2.2.1), pw_cell_below hb (hHeld.2.2.2.2.2.2.2.2.2.2.1), pw_cell_below hb (hHeld.2.2.2.2.2.2.2.2.2.2.2)⟩ (fun hHeld => ?_)
  replace HX := Aside0.mk (HX.out.trans (hb.mono HX.out.size))
  clear hb
  clear hK K
  refine norm_ (a' := ?_) ?_ ?_
  rotate_left
  · show Act.put _ (some 22) _ = _
    simp only [Act.put, List.setIfInBounds_toArray, List.set_cons_zero, List.set_cons_succ, i64_w, i32_w]
    rfl
  refine one_ (i := 3) (N := some 24) #[true, true, true, true, false, false, false, false, false, false, false, false, false, false, false, false, false, false, false, false, false, false, false, false] rfl rfl (by kernel_rfl) (by decide) (fun K hK => ?_)
  refine goes_ Try.func10 (by kernel_rfl) rfl #[.agg #[.slice p1.a0 a1.th.length p1.c0, .slice p1.a1 a1.at_.length p1.c1, .slice p1.a2 a1.su.length p1.c2, .slice p1.a3 a1.lo.length p1.c3, .slice p1.a4 a1.ce.length p1.c4, .slice p1.a5 a1.ch.length p1.c5]] (by rfl) rfl rfl (by (try simp only [List.map_toArray, List.map_cons, List.map_nil]); first | done | rfl) ?_
  refine (HR2.out _ HX.out).mono ?_
  rintro e u ⟨rfl, hb⟩
  refine ⟨_, rfl, ?_⟩
  refine hK.out _ _ ⟨pw_cell_below hb (hHeld.1), pw_cell_below hb (hHeld.2.1), pw_cell_below hb (hHeld.2.2.1), pw_cell_below hb (hHeld.2.2.2.1), pw_cell_below hb (hHeld.2.2.2.2.1), pw_cell_below hb (hHeld.2.2.2.2.2.1), pw_cell_below hb (hHeld.2.2.2.2.2.2.1), pw_cell_below hb (hHeld.2.2.2.2.2.2.2.1), pw_cell_below hb (hHeld.2.2.2.2.2.2.2.2.1), pw_cell_below hb (hHeld.2.2.2.2.2.2.2.2.2.1), pw_cell_below hb (hHeld.2.2.2.2.2.2.2.2.2.2.1), pw_cell_below hb (hHeld.2.2.2.2.2.2.2.2.2.2.2)⟩ (fun hHeld => ?_)
  replace HX := Aside0.mk (HX.out.trans (hb.mono HX.out.size))
  clear hb
  clear hK K
  refine norm_ (a' := ?_) ?_ ?_
  rotate_left
  · show Act.put _ (some 24) _ = _
    simp only [Act.put, List.setIfInBounds_toArray, List.set_cons_zero, List.set_cons_succ, i64_w, i32_w]
    rfl
  refine pure_ (i := 4) (N := some 25) (v := ?_) (a' := ?_) #[true, true, true, true, true, false, false, false, false, false, false, false, false, false, false, false, false, false, false, false, false, false, false, false] rfl rfl (by kernel_rfl) (fun _ _ _ h => h) (Or.inl ⟨by rfl, ?_⟩) ?_ ?_
  rotate_left
  · intro w'
    go_simp
    with_reducible rfl
  rotate_left
  · simp only [Act.put, List.setIfInBounds_toArray, List.set_cons_zero, List.set_cons_succ, i64_w, i32_w]
    rfl
  refine pure_ (i := 5) (N := some 26) (v := ?_) (a' := ?_) #[true, true, true, true, true, true, false, false, false, false, false, false, false, false, false, false, false, false, false, false, false, false, false, false] rfl rfl (by kernel_rfl) (fun _ _ _ h => h) (Or.inl ⟨by rfl, ?_⟩) ?_ ?_
  rotate_left
  · intro w'
    go_simp
    with_reducible rfl
  rotate_left
  · simp only [Act.put, List.setIfInBounds_toArray, List.set_cons_zero, List.set_cons_succ, i64_w, i32_w]
    rfl
  refine take_ (i := 6) (N := some 27) (v := ?_) (a' := ?_) #[true, true, true, true, true, true, true, false, false, false, false, false, false, false, false, false, false, false, false, false, false, false, false, false] rfl rfl (by kernel_rfl) (fun _ _ _ h => h) (Or.inl ⟨by rfl, ?_⟩) hHeld ?_ ?_
  rotate_left
  · rintro w' ⟨s0, s1, s2, s3, s4, s5, s6, s7, s8, s9, s10, s11⟩
    go_simp
    with_reducible rfl
  rotate_left
  · simp only [Act.put, List.setIfInBounds_toArray, List.set_cons_zero, List.set_cons_succ, i64_w, i32_w]
    rfl
  refine take_ (i := 7) (N := some 28) (v := ?_) (a' := ?_) #[true, true, true, true, true, true, true, true, false, false, false, false, false, false, false, false, false, false, false, false, false, false, false, false] rfl rfl (by kernel_rfl) (fun _ _ _ h => h) (Or.inl ⟨by rfl, ?_⟩) hHeld ?_ ?_
  rotate_left
  · rintro w' ⟨s0, s1, s2, s3, s4, s5, s6, s7, s8, s9, s10, s11⟩
    go_simp
    with_reducible rfl
  rotate_left
  · simp only [Act.put, List.setIfInBounds_toArray, List.set_cons_zero, List.set_cons_succ, i64_w, i32_w]
    rfl
  refine take_ (i := 9) (N := some 30) (v := ?_) (a' := ?_) #[true, true, true, true, true, true, true, true, false, true, false, false, false, false, false, false, false, false, false, false, false, false, false, false] rfl rfl (by kernel_rfl) (fun _ _ _ h => h) (Or.inl ⟨by rfl, ?_⟩) hHeld ?_ ?_
  rotate_left
  · rintro w' ⟨s0, s1, s2, s3, s4, s5, s6, s7, s8, s9, s10, s11⟩
    go_simp
    with_reducible rfl
  rotate_left
  · simp only [Act.put, List.setIfInBounds_toArray, List.set_cons_zero, List.set_cons_succ, i64_w, i32_w]
    rfl
  refine take_ (i := 10) (N := some 31) (v := ?_) (a' := ?_) #[true, true, true, true, true, true, true, true, false, true, true, false, false, false, false, false, false, false, false, false, false, false, false, false] rfl rfl (by kernel_rfl) (fun _ _ _ h => h) (Or.inl ⟨by rfl, ?_⟩) hHeld ?_ ?_
  rotate_left
  · rintro w' ⟨s0, s1, s2, s3, s4, s5, s6, s7, s8, s9, s10, s11⟩
    go_simp
    with_reducible rfl
  rotate_left
  · simp only [Act.put, List.setIfInBounds_toArray, List.set_cons_zero, List.set_cons_succ, i64_w, i32_w]
    rfl
  refine one_ (i := 8) (N := some 29) #[true, true, true, true, true, true, true, true, true, true, true, false, false, false, false, false, false, false, false, false, false, false, false, false] rfl rfl (by kernel_rfl) (by decide) (fun K hK => ?_)
  refine goes_ Try.func21 (by kernel_rfl) rfl #[.agg #[.slice p1.a0 a1.th.length p1.c0, .slice p1.a1 a1.at_.length p1.c1, .slice p1.a2 a1.su.length p1.c2, .slice p1.a3 a1.lo.length p1.c3, .slice p1.a4 a1.ce.length p1.c4, .slice p1.a5 a1.ch.length p1.c5], .agg #[.slice p2.a0 b1.th.length p2.c0, .slice p2.a1 b1.at_.length p2.c1, .slice p2.a2 b1.su.length p2.c2, .slice p2.a3 b1.lo.length p2.c3, .slice p2.a4 b1.ce.length p2.c4, .slice p2.a5 b1.ch.length p2.c5]] (by rfl) rfl rfl (by (try simp only [List.map_toArray, List.map_cons, List.map_nil]); first | done | rfl) ?_
  refine (HK1.out _ HX.out).mono ?_
  rintro e u ⟨rfl, hb⟩
  refine ⟨_, rfl, ?_⟩
  refine hK.out _ _ ⟨pw_cell_below hb (hHeld.1), pw_cell_below hb (hHeld.2.1), pw_cell_below hb (hHeld.2.2.1), pw_cell_below hb (hHeld.2.2.2.1), pw_cell_below hb (hHeld.2.2.2.2.1), pw_cell_below hb (hHeld.2.2.2.2.2.1), pw_cell_below hb (hHeld.2.2.2.2.2.2.1), pw_cell_below hb (hHeld.2.2.2.2.2.2.2.1), pw_cell_below hb (hHeld.2.2.2.2.2.2.2.2.1), pw_cell_below hb (hHeld.2.2.2.2.2.2.2.2.2.1), pw_cell_below hb (hHeld.2.2.2.2.2.2.2.2.2.2.1), pw_cell_below hb (hHeld.2.2.2.2.2.2.2.2.2.2.2)⟩ (fun hHeld => ?_)
  replace HX := Aside0.mk (HX.out.trans (hb.mono HX.out.size))
  clear hb
  clear hK K
  refine norm_ (a' := ?_) ?_ ?_
  rotate_left
  · show Act.put _ (some 29) _ = _
    simp only [Act.put, List.setIfInBounds_toArray, List.set_cons_zero, List.set_cons_succ, i64_w, i32_w]
    rfl
  refine one_ (i := 11) (N := some 32) #[true, true, true, true, true, true, true, true, true, true, true, true, false, false, false, false, false, false, false, false, false, false, false, false] rfl rfl (by kernel_rfl) (by decide) (fun K hK => ?_)
  refine goes_ Try.func12 (by kernel_rfl) rfl #[.agg #[.slice p1.a0 a1.th.length p1.c0, .slice p1.a1 a1.at_.length p1.c1, .slice p1.a2 a1.su.length p1.c2, .slice p1.a3 a1.lo.length p1.c3, .slice p1.a4 a1.ce.length p1.c4, .slice p1.a5 a1.ch.length p1.c5], .agg #[.slice p2.a0 b1.th.length p2.c0, .slice p2.a1 b1.at_.length p2.c1, .slice p2.a2 b1.su.length p2.c2, .slice p2.a3 b1.lo.length p2.c3, .slice p2.a4 b1.ce.length p2.c4, .slice p2.a5 b1.ch.length p2.c5]] (by rfl) rfl rfl (by (try simp only [List.map_toArray, List.map_cons, List.map_nil]); first | done | rfl) ?_
  refine (HK2.out _ HX.out).mono ?_
  rintro e u ⟨rfl, hb⟩
  refine ⟨_, rfl, ?_⟩
  refine hK.out _ _ ⟨pw_cell_below hb (hHeld.1), pw_cell_below hb (hHeld.2.1), pw_cell_below hb (hHeld.2.2.1), pw_cell_below hb (hHeld.2.2.2.1), pw_cell_below hb (hHeld.2.2.2.2.1), pw_cell_below hb (hHeld.2.2.2.2.2.1), pw_cell_below hb (hHeld.2.2.2.2.2.2.1), pw_cell_below hb (hHeld.2.2.2.2.2.2.2.1), pw_cell_below hb (hHeld.2.2.2.2.2.2.2.2.1), pw_cell_below hb (hHeld.2.2.2.2.2.2.2.2.2.1), pw_cell_below hb (hHeld.2.2.2.2.2.2.2.2.2.2.1), pw_cell_below hb (hHeld.2.2.2.2.2.2.2.2.2.2.2)⟩ (fun hHeld => ?_)
  replace HX := Aside0.mk (HX.out.trans (hb.mono HX.out.size))
  clear hb
  clear hK K
  refine norm_ (a' := ?_) ?_ ?_
  rotate_left
  · show Act.put _ (some 32) _ = _
    simp only [Act.put, List.setIfInBounds_toArray, List.set_cons_zero, List.set_cons_succ, i64_w, i32_w]
    rfl
  refine pure_ (i := 12) (N := some 33) (v := ?_) (a' := ?_) #[true, true, true, true, true, true, true, true, true, true, true, true, true, false, false, false, false, false, false, false, false, false, false, false] rfl rfl (by kernel_rfl) (fun _ _ _ h => h) (Or.inl ⟨by rfl, ?_⟩) ?_ ?_
  rotate_left
  · intro w'
    go_simp
    with_reducible rfl
  rotate_left
  · simp only [Act.put, List.setIfInBounds_toArray, List.set_cons_zero, List.set_cons_succ, i64_w, i32_w]
    rfl
  refine pure_ (i := 13) (N := some 34) (v := ?_) (a' := ?_) #[true, true, true, true, true, true, true, true, true, true, true, true, true, true, false, false, false, false, false, false, false, false, false, false] rfl rfl (by kernel_rfl) (fun _ _ _ h => h) (Or.inl ⟨by rfl, ?_⟩) ?_ ?_
  rotate_left
  · intro w'
    go_simp
    with_reducible rfl
  rotate_left
  · simp only [Act.put, List.setIfInBounds_toArray, List.set_cons_zero, List.set_cons_succ, i64_w, i32_w]
    rfl
  refine pure_ (i := 14) (N := some 35) (v := ?_) (a' := ?_) #[true, true, true, true, true, true, true, true, true, true, true, true, true, true, true, false, false, false, false, false, false, false, false, false] rfl rfl (by kernel_rfl) (fun _ _ _ h => h) (Or.inl ⟨by rfl, ?_⟩) ?_ ?_
  rotate_left
  · intro w'
    go_simp
    with_reducible rfl
  rotate_left
  · simp only [Act.put, List.setIfInBounds_toArray, List.set_cons_zero, List.set_cons_succ, i64_w, i32_w]
    rfl
  refine take_ (i := 15) (N := some 36) (v := ?_) (a' := ?_) #[true, true, true, true, true, true, true, true, true, true, true, true, true, true, true, true, false, false, false, false, false, false, false, false] rfl rfl (by kernel_rfl) (fun _ _ _ h => h) (Or.inl ⟨by rfl, ?_⟩) hHeld ?_ ?_
  rotate_left
  · rintro w' ⟨s0, s1, s2, s3, s4, s5, s6, s7, s8, s9, s10, s11⟩
    go_simp
    with_reducible rfl
  rotate_left
  · simp only [Act.put, List.setIfInBounds_toArray, List.set_cons_zero, List.set_cons_succ, i64_w, i32_w]
    rfl
  refine take_ (i := 16) (N := some 37) (v := ?_) (a' := ?_) #[true, true, true, true, true, true, true, true, true, true, true, true, true, true, true, true, true, false, false, false, false, false, false, false] rfl rfl (by kernel_rfl) (fun _ _ _ h => h) (Or.inl ⟨by rfl, ?_⟩) hHeld ?_ ?_
  rotate_left
  · rintro w' ⟨s0, s1, s2, s3, s4, s5, s6, s7, s8, s9, s10, s11⟩
    go_simp
    with_reducible rfl
  rotate_left
  · simp only [Act.put, List.setIfInBounds_toArray, List.set_cons_zero, List.set_cons_succ, i64_w, i32_w]
    rfl
  refine one_ (i := 17) (N := some 38) #[true, true, true, true, true, true, true, true, true, true, true, true, true, true, true, true, true, true, false, false, false, false, false, false] rfl rfl (by kernel_rfl) (by decide) (fun K hK => ?_)
  refine goes_ Try.func21 (by kernel_rfl) rfl #[.agg #[.slice p1.a0 a1.th.length p1.c0, .slice p1.a1 a1.at_.length p1.c1, .slice p1.a2 a1.su.length p1.c2, .slice p1.a3 a1.lo.length p1.c3, .slice p1.a4 a1.ce.length p1.c4, .slice p1.a5 a1.ch.length p1.c5], .agg #[.slice p1.a0 a1.th.length p1.c0, .slice p1.a1 a1.at_.length p1.c1, .slice p1.a2 a1.su.length p1.c2, .slice p1.a3 a1.lo.length p1.c3, .slice p1.a4 a1.ce.length p1.c4, .slice p1.a5 a1.ch.length p1.c5]] (by rfl) rfl rfl (by (try simp only [List.map_toArray, List.map_cons, List.map_nil]); first | done | rfl) ?_
  refine (HK3.out _ HX.out).mono ?_
  rintro e u ⟨rfl, hb⟩
  refine ⟨_, rfl, ?_⟩
  refine hK.out _ _ ⟨pw_cell_below hb (hHeld.1), pw_cell_below hb (hHeld.2.1), pw_cell_below hb (hHeld.2.2.1), pw_cell_below hb (hHeld.2.2.2.1), pw_cell_below hb (hHeld.2.2.2.2.1), pw_cell_below hb (hHeld.2.2.2.2.2.1), pw_cell_below hb (hHeld.2.2.2.2.2.2.1), pw_cell_below hb (hHeld.2.2.2.2.2.2.2.1), pw_cell_below hb (hHeld.2.2.2.2.2.2.2.2.1), pw_cell_below hb (hHeld.2.2.2.2.2.2.2.2.2.1), pw_cell_below hb (hHeld.2.2.2.2.2.2.2.2.2.2.1), pw_cell_below hb (hHeld.2.2.2.2.2.2.2.2.2.2.2)⟩ (fun hHeld => ?_)
  replace HX := Aside0.mk (HX.out.trans (hb.mono HX.out.size))
  clear hb
  clear hK K
  refine norm_ (a' := ?_) ?_ ?_
  rotate_left
  · show Act.put _ (some 38) _ = _
    simp only [Act.put, List.setIfInBounds_toArray, List.set_cons_zero, List.set_cons_succ, i64_w, i32_w]
    rfl
  refine pure_ (i := 18) (N := some 39) (v := ?_) (a' := ?_) #[true, true, true, true, true, true, true, true, true, true, true, true, true, true, true, true, true, true, true, false, false, false, false, false] rfl rfl (by kernel_rfl) (fun _ _ _ h => h) (Or.inl ⟨by rfl, ?_⟩) ?_ ?_
  rotate_left
  · intro w'
    go_simp
    with_reducible rfl
  rotate_left
  · simp only [Act.put, List.setIfInBounds_toArray, List.set_cons_zero, List.set_cons_succ, i64_w, i32_w]
    rfl
  refine pure_ (i := 19) (N := some 40) (v := ?_) (a' := ?_) #[true, true, true, true, true, true, true, true, true, true, true, true, true, true, true, true, true, true, true, true, false, false, false, false] rfl rfl (by kernel_rfl) (fun _ _ _ h => h) (Or.inl ⟨by rfl, ?_⟩) ?_ ?_
  rotate_left
  · intro w'
    go_simp
    with_reducible rfl
  rotate_left
  · simp only [Act.put, List.setIfInBounds_toArray, List.set_cons_zero, List.set_cons_succ, i64_w, i32_w]
    rfl
  refine pure_ (i := 20) (N := some 41) (v := ?_) (a' := ?_) #[true, true, true, true, true, true, true, true, true, true, true, true, true, true, true, true, true, true, true, true, true, false, false, false] rfl rfl (by kernel_rfl) (fun _ _ _ h => h) (Or.inl ⟨by rfl, ?_⟩) ?_ ?_
  rotate_left
  · intro w'
    go_simp
    with_reducible rfl
  rotate_left
  · simp only [Act.put, List.setIfInBounds_toArray, List.set_cons_zero, List.set_cons_succ, i64_w, i32_w]
    rfl
  refine one_ (i := 21) (N := some 42) #[true, true, true, true, true, true, true, true, true, true, true, true, true, true, true, true, true, true, true, true, true, true, false, false] rfl rfl (by kernel_rfl) (by decide) (fun K hK => ?_)
  refine goes_ Try.func11 (by kernel_rfl) rfl #[] (by rfl) rfl rfl (by (try simp only [List.map_toArray, List.map_cons, List.map_nil]); first | done | rfl) ?_
  refine (HAL.out _ HX.out).mono ?_
  rintro e u ⟨rfl, hb⟩
  refine ⟨_, rfl, ?_⟩
  refine hK.out _ _ ⟨pw_cell_below hb (hHeld.1), pw_cell_below hb (hHeld.2.1), pw_cell_below hb (hHeld.2.2.1), pw_cell_below hb (hHeld.2.2.2.1), pw_cell_below hb (hHeld.2.2.2.2.1), pw_cell_below hb (hHeld.2.2.2.2.2.1), pw_cell_below hb (hHeld.2.2.2.2.2.2.1), pw_cell_below hb (hHeld.2.2.2.2.2.2.2.1), pw_cell_below hb (hHeld.2.2.2.2.2.2.2.2.1), pw_cell_below hb (hHeld.2.2.2.2.2.2.2.2.2.1), pw_cell_below hb (hHeld.2.2.2.2.2.2.2.2.2.2.1), pw_cell_below hb (hHeld.2.2.2.2.2.2.2.2.2.2.2)⟩ (fun hHeld => ?_)
  replace HX := Aside0.mk (HX.out.trans (hb.mono HX.out.size))
  clear hb
  clear hK K
  refine norm_ (a' := ?_) ?_ ?_
  rotate_left
  · show Act.put _ (some 42) _ = _
    simp only [Act.put, List.setIfInBounds_toArray, List.set_cons_zero, List.set_cons_succ, i64_w, i32_w]
    rfl
  refine pure_ (i := 22) (N := some 43) (v := ?_) (a' := ?_) #[true, true, true, true, true, true, true, true, true, true, true, true, true, true, true, true, true, true, true, true, true, true, true, false] rfl rfl (by kernel_rfl) (fun _ _ _ h => h) (Or.inl ⟨by rfl, ?_⟩) ?_ ?_
  rotate_left
  · intro w'
    go_simp
    with_reducible rfl
  rotate_left
  · simp only [Act.put, List.setIfInBounds_toArray, List.set_cons_zero, List.set_cons_succ, i64_w, i32_w]
    rfl
  refine pure_ (i := 23) (N := some 44) (v := ?_) (a' := ?_) #[true, true, true, true, true, true, true, true, true, true, true, true, true, true, true, true, true, true, true, true, true, true, true, true] rfl rfl (by kernel_rfl) (fun _ _ _ h => h) (Or.inl ⟨by rfl, ?_⟩) ?_ ?_
  rotate_left
  · intro w'
    go_simp
    with_reducible rfl
  rotate_left
  · simp only [Act.put, List.setIfInBounds_toArray, List.set_cons_zero, List.set_cons_succ, i64_w, i32_w]
    rfl
  refine done_ (by kernel_rfl) ?_
  clear hHeld HA HB HR1 HR2 HK1 HK2 HK3 HAL
  obtain ⟨N, hN⟩ : ∃ N, newS l1 = N := ⟨_, rfl⟩
  have HNEW : Aside0 (∀ W', Below W3.heap.size W3 W' → Calls Try.prog 22 #[.slice A1 l1.length c1] W' (fun e v => ∃ p, e = .returned (.agg #[.slice p.a0 N.th.length p.c0, .slice p.a1 N.at_.length p.c1, .slice p.a2 N.su.length p.c2, .slice p.a3 N.lo.length p.c3, .slice p.a4 N.ce.length p.c4, .slice p.a5 N.ch.length p.c5]) ∧ SysC v N p ∧ Below W'.heap.size W' v)) := ⟨fun W' h => by rw [← hN]; exact refNew_calls A1 c1 l1 W' (CT_up HL.out (up_below h)) HLc1.out (by have := HL1.out; omega)⟩
  have hn : (rightB N = true ∧ s7 = N ∧ c7 = 0) ∨ (rightB N = false ∧ s7 = Syst.none ∧ c7 = 1) := by
    have h1 := HR7.out
    unfold xNew at h1
    rw [hN] at h1
    cases hr : rightB N with
    | true => rw [if_pos hr] at h1; obtain ⟨rfl, rfl⟩ := Prod.mk.inj h1; exact .inl ⟨rfl, rfl, rfl⟩
    | false => rw [if_neg (by rw [hr]; decide)] at h1; obtain ⟨rfl, rfl⟩ := Prod.mk.inj h1; exact .inr ⟨rfl, rfl, rfl⟩
  rw [hN] at HNB
  replace H7 := Aside0.mk (blk_below H7.out HX.out)
  replace HS7 := Aside0.mk (HS7.out.below HX.out)
  replace HW := Aside0.mk (HW.out.trans (HX.out.mono HW.out.size))
  clear hN HR7 HL
  rcases hn with ⟨hr, rfl, rfl⟩ | ⟨hr, rfl, rfl⟩
  · have HRN := Aside0.mk hr
    clear hr
    as_aux_lemma =>
    go_wp2_with (first
      | (go_at_call 22; refine (HNEW.out _ HX.out).mono ?_; rintro e v2 ⟨p9, rfl, hs, hb⟩; have hal : Below v2.heap.size v2 (v2.alloc (.cells #[.slice p9.a0 s7.th.length p9.c0, .slice p9.a1 s7.at_.length p9.c1, .slice p9.a2 s7.su.length p9.c2, .slice p9.a3 s7.lo.length p9.c3, .slice p9.a4 s7.ce.length p9.c4, .slice p9.a5 s7.ch.length p9.c5] 26)) := (Below.refl _ _).alloc (Nat.le_refl _) _; have H9 := Aside0.mk (blk_new v2 (.cells #[.slice p9.a0 s7.th.length p9.c0, .slice p9.a1 s7.at_.length p9.c1, .slice p9.a2 s7.su.length p9.c2, .slice p9.a3 s7.lo.length p9.c3, .slice p9.a4 s7.ce.length p9.c4, .slice p9.a5 s7.ch.length p9.c5] 26)); have HS9 := Aside0.mk (hs.below hal); replace H7 := Aside0.mk (blk_below (blk_below H7.out hb) hal); replace HS7 := Aside0.mk ((HS7.out.below hb).below hal); replace HW := Aside0.mk ((HW.out.trans (hb.mono HW.out.size)).trans (hal.mono (HW.out.trans (hb.mono HW.out.size)).size)); obtain ⟨y0, y1, y2, y3, y4, y5⟩ := six_cells H9.out; clear hb hs hal)
      | (go_at_call 10; refine (refRight_calls s7 p9 _ HS9.out HNB.out).mono ?_; rintro e v3 ⟨rfl, hb⟩; rw [HRN.out]; replace H9 := Aside0.mk (blk_below H9.out hb); replace HS9 := Aside0.mk (HS9.out.below hb); replace H7 := Aside0.mk (blk_below H7.out hb); replace HS7 := Aside0.mk (HS7.out.below hb); replace HW := Aside0.mk (HW.out.trans (hb.mono HW.out.size)); clear hb y0 y1 y2 y3 y4 y5; obtain ⟨y0, y1, y2, y3, y4, y5⟩ := six_cells H9.out; obtain ⟨q0, q1, q2, q3, q4, q5⟩ := six_cells H7.out)
      | (go_at_call 12; refine (refSame_calls s7 s7 p7 p9 _ HS7.out HS9.out HNB.out).mono ?_; rintro e v4 ⟨rfl, hb⟩; rw [sameB_refl]; replace HW := Aside0.mk (HW.out.trans (hb.mono HW.out.size)); clear hb))
    go_ret
    exact ⟨rfl, HW.out⟩
  · have HRN := Aside0.mk hr
    clear hr
    as_aux_lemma =>
    go_wp2_with (first
      | (go_at_call 22; refine (HNEW.out _ HX.out).mono ?_; rintro e v2 ⟨p9, rfl, hs, hb⟩; have hal : Below v2.heap.size v2 (v2.alloc (.cells #[.slice p9.a0 N.th.length p9.c0, .slice p9.a1 N.at_.length p9.c1, .slice p9.a2 N.su.length p9.c2, .slice p9.a3 N.lo.length p9.c3, .slice p9.a4 N.ce.length p9.c4, .slice p9.a5 N.ch.length p9.c5] 26)) := (Below.refl _ _).alloc (Nat.le_refl _) _; have H9 := Aside0.mk (blk_new v2 (.cells #[.slice p9.a0 N.th.length p9.c0, .slice p9.a1 N.at_.length p9.c1, .slice p9.a2 N.su.length p9.c2, .slice p9.a3 N.lo.length p9.c3, .slice p9.a4 N.ce.length p9.c4, .slice p9.a5 N.ch.length p9.c5] 26)); have HS9 := Aside0.mk (hs.below hal); replace H7 := Aside0.mk (blk_below (blk_below H7.out hb) hal); replace HS7 := Aside0.mk ((HS7.out.below hb).below hal); replace HW := Aside0.mk ((HW.out.trans (hb.mono HW.out.size)).trans (hal.mono (HW.out.trans (hb.mono HW.out.size)).size)); obtain ⟨y0, y1, y2, y3, y4, y5⟩ := six_cells H9.out; clear hb hs hal)
      | (go_at_call 10; refine (refRight_calls N p9 _ HS9.out HNB.out).mono ?_; rintro e v3 ⟨rfl, hb⟩; rw [HRN.out]; replace H9 := Aside0.mk (blk_below H9.out hb); replace HS9 := Aside0.mk (HS9.out.below hb); replace H7 := Aside0.mk (blk_below H7.out hb); replace HS7 := Aside0.mk (HS7.out.below hb); replace HW := Aside0.mk (HW.out.trans (hb.mono HW.out.size)); clear hb y0 y1 y2 y3 y4 y5; obtain ⟨y0, y1, y2, y3, y4, y5⟩ := six_cells H9.out; obtain ⟨q0, q1, q2, q3, q4, q5⟩ := six_cells H7.out)
      | (go_at_call 12; refine (refSame_calls Syst.none Syst.none p7 Ad.none _ HS7.out (SysC_none _) none_bd).mono ?_; rintro e v4 ⟨rfl, hb⟩; rw [sameB_refl]; replace HW := Aside0.mk (HW.out.trans (hb.mono HW.out.size)); clear hb))
    go_ret
    exact ⟨rfl, HW.out⟩
end Go.Proofs.Ythnimpbcfegmjaa.Own

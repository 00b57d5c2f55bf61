/- Functions and their contracts, printed by stubprint.py (a program of this repo, which runs the kit's print with some functions proved by hand): each call answers what the plain function tells. -/
import Derived.Test.YtjgcfdiicjbdoaaQx0
namespace Go.Proofs.Ytjgcfdiicjbdoaa.Q
open Go.Proofs.Ytjgcfdiicjbdoaa.Own Go.Proofs.Ytjgcfdiicjbdoaa.Pure Go.Proofs.Ytjgcfdiicjbdoaa.P
open Go.RowKit Go.Proofs.YtjgcfdiicjbdoaaW.PrintWords Go.Proofs.YtjgcfdiicjbdoaaW.PrintLast Go.Proofs.YtjgcfdiicjbdoaaW.PrintMore
attribute [local go_sem] max2_int min2_int max_two min_two max_three min_three max_four min_four   -- for this text's walks alone
set_option linter.unusedVariables false
set_option linter.unusedSimpArgs false

/-! ### downpourlaw07_DegreeTables: function 5 -/
mutual
def downpourlaw07_DegreeTables.j0 : Nat → Int → Int → Int → Int → List Int → Int → List Int → Int → Bool → Option (Bool)
  | 0, _, _, _, _, _, _, _, _, _ => none
  | k + 1, x0, x1, x5, x6, x7, x8, x9, x10, x11 => if x11 = true then (if x6 = 0 then ((downpourref07_Root.f k x1).bind fun t111 => (if x5 = t111 then ((downpourlaw07_alive.f).bind fun t112 => (downpourlaw07_DegreeTables.j1 k x0 x7 x8 x9 x10 (!t112))) else (downpourlaw07_DegreeTables.j1 k x0 x7 x8 x9 x10 true))) else (downpourlaw07_DegreeTables.j1 k x0 x7 x8 x9 x10 true)) else (if x6 = 2 then (if x5 = 0 then ((downpourlaw07_alive.f).bind fun t113 => (downpourlaw07_DegreeTables.j1 k x0 x7 x8 x9 x10 (!t113))) else (downpourlaw07_DegreeTables.j1 k x0 x7 x8 x9 x10 true)) else (downpourlaw07_DegreeTables.j1 k x0 x7 x8 x9 x10 true))
def downpourlaw07_DegreeTables.j1 : Nat → Int → List Int → Int → List Int → Int → Bool → Option (Bool)
  | 0, _, _, _, _, _, _ => none
  | k + 1, x0, x7, x8, x9, x10, x59 => if x59 = true then (some false) else (if x0 < 1 then (downpourlaw07_DegreeTables.j2 k x0 x7 x8 x9 x10 true) else (downpourlaw07_DegreeTables.j2 k x0 x7 x8 x9 x10 (decide (x0 > 64))))
def downpourlaw07_DegreeTables.j2 : Nat → Int → List Int → Int → List Int → Int → Bool → Option (Bool)
  | 0, _, _, _, _, _, _ => none
  | k + 1, x0, x7, x8, x9, x10, x65 => if x65 = true then (if x8 = 2 then (if x10 = 2 then (some ((wrap64 ((x7.length : Int) + (x9.length : Int))) == 0)) else (some false)) else (some false)) else (if x8 = 0 then (if x10 = 0 then ((downpourref07_Weights.f k x0).bind fun t114 => ((downpourref07_Same.f k x7 t114).bind fun t117 => (if t117 = true then ((downpourref07_Table.f k x0).bind fun t118 => ((downpourref07_Same.f k x9 t118).bind fun t121 => (some t121))) else (some false)))) else (some false)) else (some false))
end
def downpourlaw07_DegreeTables.f (k : Nat) (a0 : Int) (a1 : Int) : Option (Bool) := (degree_Root.f k a1).bind fun bt101 => ((degree_Weights.f a0).bind fun bt103 => ((degree_Table.f a0).bind fun bt107 => (if a1 ≥ 0 then (downpourlaw07_DegreeTables.j0 k a0 a1 bt101.1 bt101.2 bt103.1 bt103.2 bt107.1 bt107.2 (decide (a1 ≤ 2147483647))) else (downpourlaw07_DegreeTables.j0 k a0 a1 bt101.1 bt101.2 bt103.1 bt103.2 bt107.1 bt107.2 false))))
theorem downpourlaw07_DegreeTables.mono_l : ∀ k, (∀ y0 y1 y2 y3 y4 y5 y6 y7 y8, LeO (downpourlaw07_DegreeTables.j0 k y0 y1 y2 y3 y4 y5 y6 y7 y8) (downpourlaw07_DegreeTables.j0 (k + 1) y0 y1 y2 y3 y4 y5 y6 y7 y8)) ∧ (∀ y0 y1 y2 y3 y4 y5, LeO (downpourlaw07_DegreeTables.j1 k y0 y1 y2 y3 y4 y5) (downpourlaw07_DegreeTables.j1 (k + 1) y0 y1 y2 y3 y4 y5)) ∧ (∀ y0 y1 y2 y3 y4 y5, LeO (downpourlaw07_DegreeTables.j2 k y0 y1 y2 y3 y4 y5) (downpourlaw07_DegreeTables.j2 (k + 1) y0 y1 y2 y3 y4 y5))
  | 0 => ⟨fun _ _ _ _ _ _ _ _ _ r h => by simp [downpourlaw07_DegreeTables.j0] at h, fun _ _ _ _ _ _ r h => by simp [downpourlaw07_DegreeTables.j1] at h, fun _ _ _ _ _ _ r h => by simp [downpourlaw07_DegreeTables.j2] at h⟩
  | k + 1 => by
    obtain ⟨ih0, ih1, ih2⟩ := downpourlaw07_DegreeTables.mono_l k
    refine ⟨?_, ?_, ?_⟩
    · intro y0 y1 y2 y3 y4 y5 y6 y7 y8
      unfold downpourlaw07_DegreeTables.j0
      repeat' first
      | (with_reducible exact ih0 _ _ _ _ _ _ _ _ _)
      | (with_reducible exact ih1 _ _ _ _ _ _)
      | (with_reducible exact ih2 _ _ _ _ _ _)
      | (with_reducible exact degree_Root.mono _ _)
      | (with_reducible exact downpourref07_Root.mono _ _)
      | (with_reducible exact downpourref07_Same.mono _ _ _)
      | (with_reducible exact downpourref07_Table.mono _ _)
      | (with_reducible exact downpourref07_Weights.mono _ _)
      | (with_reducible exact LeO.refl _)
      | (with_reducible exact LeO.none _)
      | (with_reducible refine LeO.ite ?_ ?_)
      | (with_reducible refine LeO.bind ?_ (fun _ => ?_))
      | exact ih0 _ _ _ _ _ _ _ _ _
      | exact ih1 _ _ _ _ _ _
      | exact ih2 _ _ _ _ _ _
      | exact degree_Root.mono _ _
      | exact downpourref07_Root.mono _ _
      | exact downpourref07_Same.mono _ _ _
      | exact downpourref07_Table.mono _ _
      | exact downpourref07_Weights.mono _ _
      | exact LeO.none _
      | refine LeO.ite ?_ ?_
      | refine LeO.bind ?_ (fun _ => ?_)
    · intro y0 y1 y2 y3 y4 y5
      unfold downpourlaw07_DegreeTables.j1
      repeat' first
      | (with_reducible exact ih0 _ _ _ _ _ _ _ _ _)
      | (with_reducible exact ih1 _ _ _ _ _ _)
      | (with_reducible exact ih2 _ _ _ _ _ _)
      | (with_reducible exact degree_Root.mono _ _)
      | (with_reducible exact downpourref07_Root.mono _ _)
      | (with_reducible exact downpourref07_Same.mono _ _ _)
      | (with_reducible exact downpourref07_Table.mono _ _)
      | (with_reducible exact downpourref07_Weights.mono _ _)
      | (with_reducible exact LeO.refl _)
      | (with_reducible exact LeO.none _)
      | (with_reducible refine LeO.ite ?_ ?_)
      | (with_reducible refine LeO.bind ?_ (fun _ => ?_))
      | exact ih0 _ _ _ _ _ _ _ _ _
      | exact ih1 _ _ _ _ _ _
      | exact ih2 _ _ _ _ _ _
      | exact degree_Root.mono _ _
      | exact downpourref07_Root.mono _ _
      | exact downpourref07_Same.mono _ _ _
      | exact downpourref07_Table.mono _ _
      | exact downpourref07_Weights.mono _ _
      | exact LeO.none _
      | refine LeO.ite ?_ ?_
      | refine LeO.bind ?_ (fun _ => ?_)
    · intro y0 y1 y2 y3 y4 y5
      unfold downpourlaw07_DegreeTables.j2
      repeat' first
      | (with_reducible exact ih0 _ _ _ _ _ _ _ _ _)
      | (with_reducible exact ih1 _ _ _ _ _ _)
      | (with_reducible exact ih2 _ _ _ _ _ _)
      | (with_reducible exact degree_Root.mono _ _)
      | (with_reducible exact downpourref07_Root.mono _ _)
      | (with_reducible exact downpourref07_Same.mono _ _ _)
      | (with_reducible exact downpourref07_Table.mono _ _)
      | (with_reducible exact downpourref07_Weights.mono _ _)
      | (with_reducible exact LeO.refl _)
      | (with_reducible exact LeO.none _)
      | (with_reducible refine LeO.ite ?_ ?_)
      | (with_reducible refine LeO.bind ?_ (fun _ => ?_))
      | exact ih0 _ _ _ _ _ _ _ _ _
      | exact ih1 _ _ _ _ _ _
      | exact ih2 _ _ _ _ _ _
      | exact degree_Root.mono _ _
      | exact downpourref07_Root.mono _ _
      | exact downpourref07_Same.mono _ _ _
      | exact downpourref07_Table.mono _ _
      | exact downpourref07_Weights.mono _ _
      | exact LeO.none _
      | refine LeO.ite ?_ ?_
      | refine LeO.bind ?_ (fun _ => ?_)
theorem downpourlaw07_DegreeTables.mono : ∀ a0 a1 k, LeO (downpourlaw07_DegreeTables.f k a0 a1) (downpourlaw07_DegreeTables.f (k + 1) a0 a1) := by
  intro a0 a1 k
  obtain ⟨ih0, ih1, ih2⟩ := downpourlaw07_DegreeTables.mono_l k
  unfold downpourlaw07_DegreeTables.f
  repeat' first
      | (with_reducible exact ih0 _ _ _ _ _ _ _ _ _)
      | (with_reducible exact ih1 _ _ _ _ _ _)
      | (with_reducible exact ih2 _ _ _ _ _ _)
      | (with_reducible exact degree_Root.mono _ _)
      | (with_reducible exact downpourref07_Root.mono _ _)
      | (with_reducible exact downpourref07_Same.mono _ _ _)
      | (with_reducible exact downpourref07_Table.mono _ _)
      | (with_reducible exact downpourref07_Weights.mono _ _)
      | (with_reducible exact LeO.refl _)
      | (with_reducible exact LeO.none _)
      | (with_reducible refine LeO.ite ?_ ?_)
      | (with_reducible refine LeO.bind ?_ (fun _ => ?_))
      | exact ih0 _ _ _ _ _ _ _ _ _
      | exact ih1 _ _ _ _ _ _
      | exact ih2 _ _ _ _ _ _
      | exact degree_Root.mono _ _
      | exact downpourref07_Root.mono _ _
      | exact downpourref07_Same.mono _ _ _
      | exact downpourref07_Table.mono _ _
      | exact downpourref07_Weights.mono _ _
      | exact LeO.none _
      | refine LeO.ite ?_ ?_
      | refine LeO.bind ?_ (fun _ => ?_)
set_option maxHeartbeats 8000000 in
set_option maxRecDepth 100000 in
theorem downpourlaw07_DegreeTables.calls (k : Nat) (a0 : Int) (a1 : Int) (r : Bool) (w : World) (h : downpourlaw07_DegreeTables.f k a0 a1 = some r) :
    Calls Try.prog 5 #[.int .i64 a0, .int .i64 a1] w fun e w' => e = .returned (.bool r) ∧ Below w.heap.size w w' := by
  have HB := Aside0.mk (Below.refl w.heap.size w)
  have H : ((degree_Root.f k a1).bind fun bt101 => ((degree_Weights.f a0).bind fun bt103 => ((degree_Table.f a0).bind fun bt107 => (if a1 ≥ 0 then (downpourlaw07_DegreeTables.j0 k a0 a1 bt101.1 bt101.2 bt103.1 bt103.2 bt107.1 bt107.2 (decide (a1 ≤ 2147483647))) else (downpourlaw07_DegreeTables.j0 k a0 a1 bt101.1 bt101.2 bt103.1 bt103.2 bt107.1 bt107.2 false))))) = some r := h
  clear h
  replace H := Option.bind_eq_some_iff.mp H
  obtain ⟨⟨t101, t102⟩, A30, H⟩ := H
  replace H : ((degree_Weights.f a0).bind fun bt103 => ((degree_Table.f a0).bind fun bt107 => (if a1 ≥ 0 then (downpourlaw07_DegreeTables.j0 k a0 a1 t101 t102 bt103.1 bt103.2 bt107.1 bt107.2 (decide (a1 ≤ 2147483647))) else (downpourlaw07_DegreeTables.j0 k a0 a1 t101 t102 bt103.1 bt103.2 bt107.1 bt107.2 false)))) = some r := H
  have A3 := Aside0.mk A30
  clear A30
  replace H := Option.bind_eq_some_iff.mp H
  obtain ⟨⟨t103, t104⟩, A40, H⟩ := H
  replace H : ((degree_Table.f a0).bind fun bt107 => (if a1 ≥ 0 then (downpourlaw07_DegreeTables.j0 k a0 a1 t101 t102 t103 t104 bt107.1 bt107.2 (decide (a1 ≤ 2147483647))) else (downpourlaw07_DegreeTables.j0 k a0 a1 t101 t102 t103 t104 bt107.1 bt107.2 false))) = some r := H
  have A4 := Aside0.mk A40
  clear A40
  replace H := Option.bind_eq_some_iff.mp H
  obtain ⟨⟨t107, t108⟩, A50, H⟩ := H
  replace H : (if a1 ≥ 0 then (downpourlaw07_DegreeTables.j0 k a0 a1 t101 t102 t103 t104 t107 t108 (decide (a1 ≤ 2147483647))) else (downpourlaw07_DegreeTables.j0 k a0 a1 t101 t102 t103 t104 t107 t108 false)) = some r := H
  have A5 := Aside0.mk A50
  clear A50
  have HC6 := Aside0.mk H
  clear H
  go_enter Try.func5, Try.ntmps5
  go_upto_region 4 with (first | ((with_reducible refine gate_callee (f := 11) rfl ?_); refine goesL_ (some 14) rfl rfl Try.func11 (by kernel_rfl) rfl #[.int .i64 a1] rfl (by (try simp only [List.map_toArray, List.map_cons, List.map_nil]); first | done | rfl | (simp only [List.length_drop, List.length_take]; rfl)) ?_; (with_reducible refine (degree_Root.calls k a1 t101 t102 _ A3.out).mono ?_); rintro e w' ⟨rfl, ⟨nd, rfl⟩⟩; refine ⟨_, rfl, ?_⟩) | ((with_reducible refine gate_callee (f := 12) rfl ?_); refine goesL_ (some 19) rfl rfl Try.func12 (by kernel_rfl) rfl #[.int .i64 a0] rfl (by (try simp only [List.map_toArray, List.map_cons, List.map_nil]); first | done | rfl | (simp only [List.length_drop, List.length_take]; rfl)) ?_; (with_reducible refine (degree_Weights.calls a0 t103 t104 _ A4.out).mono ?_); rintro e w7 ⟨v105, rfl, ho0, hb⟩; refine ⟨_, rfl, ?_⟩; have n0_ := Aside0.mk (Kd.R_lower ho0 (below_size (by repeat (first | (with_reducible first | exact HB.out | apply below_alloc | apply pw_below_drewN | apply below_drew1) | exact HB.out)))); have n1_ := Aside0.mk (below_step (by repeat (first | (with_reducible first | exact HB.out | apply below_alloc | apply pw_below_drewN | apply below_drew1) | exact HB.out)) hb); clear HB; have HO106 := n0_; have HB := n1_; clear n0_ n1_; (try clear hb); (try clear hb2); (try clear hk); (try clear hi); (try clear ho0)) | ((with_reducible refine gate_callee (f := 13) rfl ?_); refine goesL_ (some 24) rfl rfl Try.func13 (by kernel_rfl) rfl #[.int .i64 a0] rfl (by (try simp only [List.map_toArray, List.map_cons, List.map_nil]); first | done | rfl | (simp only [List.length_drop, List.length_take]; rfl)) ?_; (with_reducible refine (degree_Table.calls a0 t107 t108 _ A5.out).mono ?_); rintro e w8 ⟨v109, rfl, ho0, hb⟩; refine ⟨_, rfl, ?_⟩; have n0_ := Aside0.mk (Kd.R_elder' (by (with_reducible repeat (first | apply Kd.R_alloc | apply Kd.R_drewN | apply Kd.R_drew)); exact HO106.out) (Kd.R_base ho0) hb); have n1_ := Aside0.mk (Kd.R_lower (Kd.R_new' ho0 (Kd.R_lt (by (with_reducible repeat (first | apply Kd.R_alloc | apply Kd.R_drewN | apply Kd.R_drew)); exact HO106.out))) (below_size (by repeat (first | (with_reducible first | exact HB.out | apply below_alloc | apply pw_below_drewN | apply below_drew1) | exact HB.out)))); have n2_ := Aside0.mk (below_step (by repeat (first | (with_reducible first | exact HB.out | apply below_alloc | apply pw_below_drewN | apply below_drew1) | exact HB.out)) hb); clear HO106; clear HB; have HO106 := n0_; have HO110 := n1_; have HB := n2_; clear n0_ n1_ n2_; (try clear hb); (try clear hb2); (try clear hk); (try clear hi); (try clear ho0)))
  (try simp only [Act.put, List.setIfInBounds_toArray, List.set_cons_zero, List.set_cons_succ])
  go_cut [11] (fun v11 wc => ∃ (kq : Nat) (x11_5 : Bool), v11 = .bool x11_5 ∧ Aside0 (downpourlaw07_DegreeTables.j0 kq a0 a1 t101 t102 t103 t104 t107 t108 x11_5 = some r) ∧ Aside0 (kq ≤ k) ∧ Aside0 (Kd.R (Kd.int .u64) 23 wc w.heap.size (fun k_ => some k_ ≠ (v109 : Value).ownBlock) v105 t103) ∧ Aside0 (Kd.R (Kd.int .u64) 23 wc w.heap.size (fun k_ => some k_ ≠ (v105 : Value).ownBlock) v109 t107) ∧ Aside0 (Below w.heap.size w wc))
  case first =>
    have H := HC6.out
    clear HC6
    by_cases c9 : a1 ≥ 0
    · rw [if_pos c9] at H
      have c9b0 : decide (0 ≤ a1) = true := decide_eq_true c9
      clear c9
      (first | rw [c9b0] | (simp only [i64_w, i32_w]; rw [c9b0]) | skip)
      have H' := Aside0.mk H
      clear H
      go_wp2
      go_meet
      case rel => exact ⟨_, (decide (a1 ≤ 2147483647)), (by first | rfl | (simp; done) | (simp [*]; done)), H', ⟨by first | omega | exact Nat.le_refl _⟩, ⟨by (with_reducible repeat (first | apply Kd.R_alloc | apply Kd.R_drewN | apply Kd.R_drew)); exact Kd.R_mono HO106.out (fun _ hk => hk.2)⟩, ⟨by (with_reducible repeat (first | apply Kd.R_alloc | apply Kd.R_drewN | apply Kd.R_drew)); exact Kd.R_mono HO110.out (fun _ hk => hk.2)⟩, ⟨by repeat (first | (with_reducible first | exact HB.out | apply below_alloc | apply pw_below_drewN | apply below_drew1) | exact HB.out)⟩⟩
    · rw [if_neg c9] at H
      have c9b0 : decide (0 ≤ a1) = false := decide_eq_false c9
      clear c9
      (first | rw [c9b0] | (simp only [i64_w, i32_w]; rw [c9b0]) | skip)
      have H' := Aside0.mk H
      clear H
      go_wp2
      go_meet
      case rel => exact ⟨_, (false), (by first | rfl | (simp; done) | (simp [*]; done)), H', ⟨by first | omega | exact Nat.le_refl _⟩, ⟨by (with_reducible repeat (first | apply Kd.R_alloc | apply Kd.R_drewN | apply Kd.R_drew)); exact Kd.R_mono HO106.out (fun _ hk => hk.2)⟩, ⟨by (with_reducible repeat (first | apply Kd.R_alloc | apply Kd.R_drewN | apply Kd.R_drew)); exact Kd.R_mono HO110.out (fun _ hk => hk.2)⟩, ⟨by repeat (first | (with_reducible first | exact HB.out | apply below_alloc | apply pw_below_drewN | apply below_drew1) | exact HB.out)⟩⟩
  case rest =>
    clear HC6
    try clear c1
    try clear p2
    try clear c5
    try clear c9
    try clear c9b0
    obtain ⟨kq, x11_5, rfl, HA, HJ5, HO_7, HO_9, HB⟩ := hcut
    cases kq with
    | zero => exact absurd HA.out (by simp [downpourlaw07_DegreeTables.j0])
    | succ kj5 =>
      have H := HA.out
      clear HA
      simp only [downpourlaw07_DegreeTables.j0] at H
      have HC10 := Aside0.mk H
      clear H
      go_upto_region 5 with (fail)
      go_cut [59] (fun v59 wc => ∃ (kq : Nat) (x59_9 : Bool), v59 = .bool x59_9 ∧ Aside0 (downpourlaw07_DegreeTables.j1 kq a0 t103 t104 t107 t108 x59_9 = some r) ∧ Aside0 (kq ≤ kj5) ∧ Aside0 (Kd.R (Kd.int .u64) 23 wc w.heap.size (fun k_ => some k_ ≠ (v109 : Value).ownBlock) v105 t103) ∧ Aside0 (Kd.R (Kd.int .u64) 23 wc w.heap.size (fun k_ => some k_ ≠ (v105 : Value).ownBlock) v109 t107) ∧ Aside0 (Below w.heap.size w wc))
      case first =>
        have H := HC10.out
        clear HC10
        by_cases c11 : x11_5 = true
        · subst c11
          have H1 : (if t102 = 0 then ((downpourref07_Root.f kj5 a1).bind fun t111 => (if t101 = t111 then ((downpourlaw07_alive.f).bind fun t112 => (downpourlaw07_DegreeTables.j1 kj5 a0 t103 t104 t107 t108 (!t112))) else (downpourlaw07_DegreeTables.j1 kj5 a0 t103 t104 t107 t108 true))) else (downpourlaw07_DegreeTables.j1 kj5 a0 t103 t104 t107 t108 true)) = some r := by rw [if_pos rfl] at H; exact H
          clear H
          have H := H1
          clear H1
          by_cases c12 : t102 = 0
          · rw [if_pos c12] at H
            have c12b0 : (t102 == 0) = true := beq_iff_eq.mpr c12
            have c12b1 : (t102 != 0) = false := bne_eq_false_iff_eq.mpr c12
            clear c12
            (first | rw [c12b0] | (simp only [i64_w, i32_w]; rw [c12b0]) | skip)
            replace H := Option.bind_eq_some_iff.mp H
            obtain ⟨t111, A130, H⟩ := H
            replace H : (if t101 = t111 then ((downpourlaw07_alive.f).bind fun t112 => (downpourlaw07_DegreeTables.j1 kj5 a0 t103 t104 t107 t108 (!t112))) else (downpourlaw07_DegreeTables.j1 kj5 a0 t103 t104 t107 t108 true)) = some r := H
            have A13 := Aside0.mk A130
            clear A130
            by_cases c14 : t101 = t111
            · rw [if_pos c14] at H
              have c14b0 : (t101 == t111) = true := beq_iff_eq.mpr c14
              have c14b1 : (t101 != t111) = false := bne_eq_false_iff_eq.mpr c14
              clear c14
              replace H := Option.bind_eq_some_iff.mp H
              obtain ⟨t112, A150, H⟩ := H
              replace H : (downpourlaw07_DegreeTables.j1 kj5 a0 t103 t104 t107 t108 (!t112)) = some r := H
              have A15 := Aside0.mk A150
              clear A150
              have H' := Aside0.mk H
              clear H
              go_wp2_with (first | (go_at_call 14; (with_reducible refine (downpourref07_Root.calls kj5 a1 t111 _ A13.out).mono ?_); rintro e w' ⟨rfl, ⟨nd, rfl⟩⟩) | (go_at_call 9; (with_reducible refine (downpourlaw07_alive.calls  t112 _ A15.out).mono ?_); rintro e w16 ⟨rfl, hb⟩; have n0_ := Aside0.mk (Kd.R_below (by (with_reducible repeat (first | apply Kd.R_alloc | apply Kd.R_drewN | apply Kd.R_drew)); exact HO_7.out) hb); have n1_ := Aside0.mk (Kd.R_below (by (with_reducible repeat (first | apply Kd.R_alloc | apply Kd.R_drewN | apply Kd.R_drew)); exact HO_9.out) hb); have n2_ := Aside0.mk (below_step (by repeat (first | (with_reducible first | exact HB.out | apply below_alloc | apply pw_below_drewN | apply below_drew1) | exact HB.out)) hb); clear HO_7; clear HO_9; clear HB; have HO_7 := n0_; have HO_9 := n1_; have HB := n2_; clear n0_ n1_ n2_; (try clear hb); (try clear hb2); (try clear hk); (try clear hi)))
              go_meet
              case rel => exact ⟨_, (!t112), (by first | rfl | (simp; done) | (simp [*]; done)), H', ⟨by have := HJ5.out; first | omega | exact Nat.le_refl _⟩, ⟨by (with_reducible repeat (first | apply Kd.R_alloc | apply Kd.R_drewN | apply Kd.R_drew)); exact HO_7.out⟩, ⟨by (with_reducible repeat (first | apply Kd.R_alloc | apply Kd.R_drewN | apply Kd.R_drew)); exact HO_9.out⟩, ⟨by repeat (first | (with_reducible first | exact HB.out | apply below_alloc | apply pw_below_drewN | apply below_drew1) | exact HB.out)⟩⟩
            · rw [if_neg c14] at H
              have c14b0 : (t101 == t111) = false := beq_eq_false_iff_ne.mpr c14
              have c14b1 : (t101 != t111) = true := bne_iff_ne.mpr c14
              have H' := Aside0.mk H
              clear H
              go_wp2_with (first | (go_at_call 14; (with_reducible refine (downpourref07_Root.calls kj5 a1 t111 _ A13.out).mono ?_); rintro e w' ⟨rfl, ⟨nd, rfl⟩⟩))
              go_meet
              case rel => exact ⟨_, (true), (by first | rfl | (simp; done) | (simp [*]; done)), H', ⟨by have := HJ5.out; first | omega | exact Nat.le_refl _⟩, ⟨by (with_reducible repeat (first | apply Kd.R_alloc | apply Kd.R_drewN | apply Kd.R_drew)); exact HO_7.out⟩, ⟨by (with_reducible repeat (first | apply Kd.R_alloc | apply Kd.R_drewN | apply Kd.R_drew)); exact HO_9.out⟩, ⟨by repeat (first | (with_reducible first | exact HB.out | apply below_alloc | apply pw_below_drewN | apply below_drew1) | exact HB.out)⟩⟩
          · rw [if_neg c12] at H
            have c12b0 : (t102 == 0) = false := beq_eq_false_iff_ne.mpr c12
            have c12b1 : (t102 != 0) = true := bne_iff_ne.mpr c12
            (first | rw [c12b0] | (simp only [i64_w, i32_w]; rw [c12b0]) | skip)
            have H' := Aside0.mk H
            clear H
            go_wp2
            go_meet
            case rel => exact ⟨_, (true), (by first | rfl | (simp; done) | (simp [*]; done)), H', ⟨by have := HJ5.out; first | omega | exact Nat.le_refl _⟩, ⟨by (with_reducible repeat (first | apply Kd.R_alloc | apply Kd.R_drewN | apply Kd.R_drew)); exact HO_7.out⟩, ⟨by (with_reducible repeat (first | apply Kd.R_alloc | apply Kd.R_drewN | apply Kd.R_drew)); exact HO_9.out⟩, ⟨by repeat (first | (with_reducible first | exact HB.out | apply below_alloc | apply pw_below_drewN | apply below_drew1) | exact HB.out)⟩⟩
        · replace c11 := Bool.eq_false_iff.mpr c11
          subst c11
          have H1 : (if t102 = 2 then (if t101 = 0 then ((downpourlaw07_alive.f).bind fun t113 => (downpourlaw07_DegreeTables.j1 kj5 a0 t103 t104 t107 t108 (!t113))) else (downpourlaw07_DegreeTables.j1 kj5 a0 t103 t104 t107 t108 true)) else (downpourlaw07_DegreeTables.j1 kj5 a0 t103 t104 t107 t108 true)) = some r := by rw [if_neg (show ¬ (false = true) by decide)] at H; exact H
          clear H
          have H := H1
          clear H1
          by_cases c17 : t102 = 2
          · rw [if_pos c17] at H
            have c17b0 : (t102 == 2) = true := beq_iff_eq.mpr c17
            have c17b1 : (t102 != 2) = false := bne_eq_false_iff_eq.mpr c17
            clear c17
            by_cases c18 : t101 = 0
            · rw [if_pos c18] at H
              have c18b0 : (t101 == 0) = true := beq_iff_eq.mpr c18
              have c18b1 : (t101 != 0) = false := bne_eq_false_iff_eq.mpr c18
              clear c18
              replace H := Option.bind_eq_some_iff.mp H
              obtain ⟨t113, A190, H⟩ := H
              replace H : (downpourlaw07_DegreeTables.j1 kj5 a0 t103 t104 t107 t108 (!t113)) = some r := H
              have A19 := Aside0.mk A190
              clear A190
              have H' := Aside0.mk H
              clear H
              go_wp2_with (first | (go_at_call 9; (with_reducible refine (downpourlaw07_alive.calls  t113 _ A19.out).mono ?_); rintro e w20 ⟨rfl, hb⟩; have n0_ := Aside0.mk (Kd.R_below (by (with_reducible repeat (first | apply Kd.R_alloc | apply Kd.R_drewN | apply Kd.R_drew)); exact HO_7.out) hb); have n1_ := Aside0.mk (Kd.R_below (by (with_reducible repeat (first | apply Kd.R_alloc | apply Kd.R_drewN | apply Kd.R_drew)); exact HO_9.out) hb); have n2_ := Aside0.mk (below_step (by repeat (first | (with_reducible first | exact HB.out | apply below_alloc | apply pw_below_drewN | apply below_drew1) | exact HB.out)) hb); clear HO_7; clear HO_9; clear HB; have HO_7 := n0_; have HO_9 := n1_; have HB := n2_; clear n0_ n1_ n2_; (try clear hb); (try clear hb2); (try clear hk); (try clear hi)))
              go_meet
              case rel => exact ⟨_, (!t113), (by first | rfl | (simp; done) | (simp [*]; done)), H', ⟨by have := HJ5.out; first | omega | exact Nat.le_refl _⟩, ⟨by (with_reducible repeat (first | apply Kd.R_alloc | apply Kd.R_drewN | apply Kd.R_drew)); exact HO_7.out⟩, ⟨by (with_reducible repeat (first | apply Kd.R_alloc | apply Kd.R_drewN | apply Kd.R_drew)); exact HO_9.out⟩, ⟨by repeat (first | (with_reducible first | exact HB.out | apply below_alloc | apply pw_below_drewN | apply below_drew1) | exact HB.out)⟩⟩
            · rw [if_neg c18] at H
              have c18b0 : (t101 == 0) = false := beq_eq_false_iff_ne.mpr c18
              have c18b1 : (t101 != 0) = true := bne_iff_ne.mpr c18
              have H' := Aside0.mk H
              clear H
              go_wp2
              go_meet
              case rel => exact ⟨_, (true), (by first | rfl | (simp; done) | (simp [*]; done)), H', ⟨by have := HJ5.out; first | omega | exact Nat.le_refl _⟩, ⟨by (with_reducible repeat (first | apply Kd.R_alloc | apply Kd.R_drewN | apply Kd.R_drew)); exact HO_7.out⟩, ⟨by (with_reducible repeat (first | apply Kd.R_alloc | apply Kd.R_drewN | apply Kd.R_drew)); exact HO_9.out⟩, ⟨by repeat (first | (with_reducible first | exact HB.out | apply below_alloc | apply pw_below_drewN | apply below_drew1) | exact HB.out)⟩⟩
          · rw [if_neg c17] at H
            have c17b0 : (t102 == 2) = false := beq_eq_false_iff_ne.mpr c17
            have c17b1 : (t102 != 2) = true := bne_iff_ne.mpr c17
            have H' := Aside0.mk H
            clear H
            go_wp2
            go_meet
            case rel => exact ⟨_, (true), (by first | rfl | (simp; done) | (simp [*]; done)), H', ⟨by have := HJ5.out; first | omega | exact Nat.le_refl _⟩, ⟨by (with_reducible repeat (first | apply Kd.R_alloc | apply Kd.R_drewN | apply Kd.R_drew)); exact HO_7.out⟩, ⟨by (with_reducible repeat (first | apply Kd.R_alloc | apply Kd.R_drewN | apply Kd.R_drew)); exact HO_9.out⟩, ⟨by repeat (first | (with_reducible first | exact HB.out | apply below_alloc | apply pw_below_drewN | apply below_drew1) | exact HB.out)⟩⟩
      case rest =>
        clear HC10
        try clear c1
        try clear p2
        try clear c5
        try clear c9
        try clear c9b0
        try clear c11
        try clear c12
        try clear c12b0
        try clear c12b1
        try clear c13
        try clear c14
        try clear c14b0
        try clear c14b1
        try clear c17
        try clear c17b0
        try clear c17b1
        try clear c18
        try clear c18b0
        try clear c18b1
        try clear p2
        obtain ⟨kq, x59_9, rfl, HA, HJ9, HO_7, HO_9, HB⟩ := hcut
        cases kq with
        | zero => exact absurd HA.out (by simp [downpourlaw07_DegreeTables.j1])
        | succ kj9 =>
          have H := HA.out
          clear HA
          simp only [downpourlaw07_DegreeTables.j1] at H
          by_cases c21 : x59_9 = true
          · subst c21
            have H1 : (some false) = some r := by rw [if_pos rfl] at H; exact H
            clear H
            have H := H1
            clear H1
            obtain rfl := Option.some.inj H
            go_wp2
            go_ret
            exact ⟨by first | rfl | (simp [errW_none, errW_some] <;> rfl) | (simp [*, errW_none, errW_some] <;> rfl), by repeat (first | (with_reducible first | exact HB.out | apply below_alloc | apply pw_below_drewN | apply below_drew1) | exact HB.out)⟩
          · replace c21 := Bool.eq_false_iff.mpr c21
            subst c21
            have H1 : (if a0 < 1 then (downpourlaw07_DegreeTables.j2 kj9 a0 t103 t104 t107 t108 true) else (downpourlaw07_DegreeTables.j2 kj9 a0 t103 t104 t107 t108 (decide (a0 > 64)))) = some r := by rw [if_neg (show ¬ (false = true) by decide)] at H; exact H
            clear H
            have H := H1
            clear H1
            have HC22 := Aside0.mk H
            clear H
            go_upto_region 7 with (fail)
            go_cut [65] (fun v65 wc => ∃ (kq : Nat) (x65_21 : Bool), v65 = .bool x65_21 ∧ Aside0 (downpourlaw07_DegreeTables.j2 kq a0 t103 t104 t107 t108 x65_21 = some r) ∧ Aside0 (kq ≤ kj9) ∧ Aside0 (Kd.R (Kd.int .u64) 23 wc w.heap.size (fun k_ => some k_ ≠ (v109 : Value).ownBlock) v105 t103) ∧ Aside0 (Kd.R (Kd.int .u64) 23 wc w.heap.size (fun k_ => some k_ ≠ (v105 : Value).ownBlock) v109 t107) ∧ Aside0 (Below w.heap.size w wc))
            case first =>
              have H := HC22.out
              clear HC22
              by_cases c23 : a0 < 1
              · rw [if_pos c23] at H
                have c23b0 : decide (a0 < 1) = true := decide_eq_true c23
                clear c23
                (first | rw [c23b0] | (simp only [i64_w, i32_w]; rw [c23b0]) | skip)
                have H' := Aside0.mk H
                clear H
                go_wp2
                go_meet
                case rel => exact ⟨_, (true), (by first | rfl | (simp; done) | (simp [*]; done)), H', ⟨by have := HJ5.out; have := HJ9.out; first | omega | exact Nat.le_refl _⟩, ⟨by (with_reducible repeat (first | apply Kd.R_alloc | apply Kd.R_drewN | apply Kd.R_drew)); exact HO_7.out⟩, ⟨by (with_reducible repeat (first | apply Kd.R_alloc | apply Kd.R_drewN | apply Kd.R_drew)); exact HO_9.out⟩, ⟨by repeat (first | (with_reducible first | exact HB.out | apply below_alloc | apply pw_below_drewN | apply below_drew1) | exact HB.out)⟩⟩
              · rw [if_neg c23] at H
                have c23b0 : decide (a0 < 1) = false := decide_eq_false c23
                clear c23
                (first | rw [c23b0] | (simp only [i64_w, i32_w]; rw [c23b0]) | skip)
                have H' := Aside0.mk H
                clear H
                go_wp2
                go_meet
                case rel => exact ⟨_, (decide (a0 > 64)), (by first | rfl | (simp; done) | (simp [*]; done)), H', ⟨by have := HJ5.out; have := HJ9.out; first | omega | exact Nat.le_refl _⟩, ⟨by (with_reducible repeat (first | apply Kd.R_alloc | apply Kd.R_drewN | apply Kd.R_drew)); exact HO_7.out⟩, ⟨by (with_reducible repeat (first | apply Kd.R_alloc | apply Kd.R_drewN | apply Kd.R_drew)); exact HO_9.out⟩, ⟨by repeat (first | (with_reducible first | exact HB.out | apply below_alloc | apply pw_below_drewN | apply below_drew1) | exact HB.out)⟩⟩
            case rest =>
              clear HC22
              try clear c1
              try clear c2
              try clear p2
              try clear c5
              try clear c9
              try clear c9b0
              try clear c11
              try clear c12
              try clear c12b0
              try clear c12b1
              try clear c13
              try clear c14
              try clear c14b0
              try clear c14b1
              try clear c17
              try clear c17b0
              try clear c17b1
              try clear c18
              try clear c18b0
              try clear c18b1
              try clear c21
              try clear c23
              try clear c23b0
              try clear p2
              obtain ⟨kq, x65_21, rfl, HA, HJ21, HO_7, HO_9, HB⟩ := hcut
              cases kq with
              | zero => exact absurd HA.out (by simp [downpourlaw07_DegreeTables.j2])
              | succ kj21 =>
                have H := HA.out
                clear HA
                simp only [downpourlaw07_DegreeTables.j2] at H
                by_cases c24 : x65_21 = true
                · subst c24
                  have H1 : (if t104 = 2 then (if t108 = 2 then (some ((wrap64 ((t103.length : Int) + (t107.length : Int))) == 0)) else (some false)) else (some false)) = some r := by rw [if_pos rfl] at H; exact H
                  clear H
                  have H := H1
                  clear H1
                  by_cases c25 : t104 = 2
                  · rw [if_pos c25] at H
                    have c25b0 : (t104 == 2) = true := beq_iff_eq.mpr c25
                    have c25b1 : (t104 != 2) = false := bne_eq_false_iff_eq.mpr c25
                    clear c25
                    by_cases c26 : t108 = 2
                    · rw [if_pos c26] at H
                      have c26b0 : (t108 == 2) = true := beq_iff_eq.mpr c26
                      have c26b1 : (t108 != 2) = false := bne_eq_false_iff_eq.mpr c26
                      clear c26
                      obtain rfl := Option.some.inj H
                      obtain ⟨Ao27, co27, eo27⟩ := Kd.R_slice HO_7.out
                      subst eo27
                      obtain ⟨Ao28, co28, eo28⟩ := Kd.R_slice HO_9.out
                      subst eo28
                      go_wp2
                      go_ret
                      exact ⟨by first | rfl | (simp [errW_none, errW_some] <;> rfl) | (simp [*, errW_none, errW_some] <;> rfl), by repeat (first | (with_reducible first | exact HB.out | apply below_alloc | apply pw_below_drewN | apply below_drew1) | exact HB.out)⟩
                    · rw [if_neg c26] at H
                      have c26b0 : (t108 == 2) = false := beq_eq_false_iff_ne.mpr c26
                      have c26b1 : (t108 != 2) = true := bne_iff_ne.mpr c26
                      obtain rfl := Option.some.inj H
                      go_wp2
                      go_ret
                      exact ⟨by first | rfl | (simp [errW_none, errW_some] <;> rfl) | (simp [*, errW_none, errW_some] <;> rfl), by repeat (first | (with_reducible first | exact HB.out | apply below_alloc | apply pw_below_drewN | apply below_drew1) | exact HB.out)⟩
                  · rw [if_neg c25] at H
                    have c25b0 : (t104 == 2) = false := beq_eq_false_iff_ne.mpr c25
                    have c25b1 : (t104 != 2) = true := bne_iff_ne.mpr c25
                    obtain rfl := Option.some.inj H
                    go_wp2
                    go_ret
                    exact ⟨by first | rfl | (simp [errW_none, errW_some] <;> rfl) | (simp [*, errW_none, errW_some] <;> rfl), by repeat (first | (with_reducible first | exact HB.out | apply below_alloc | apply pw_below_drewN | apply below_drew1) | exact HB.out)⟩
                · replace c24 := Bool.eq_false_iff.mpr c24
                  subst c24
                  have H1 : (if t104 = 0 then (if t108 = 0 then ((downpourref07_Weights.f kj21 a0).bind fun t114 => ((downpourref07_Same.f kj21 t103 t114).bind fun t117 => (if t117 = true then ((downpourref07_Table.f kj21 a0).bind fun t118 => ((downpourref07_Same.f kj21 t107 t118).bind fun t121 => (some t121))) else (some false)))) else (some false)) else (some false)) = some r := by rw [if_neg (show ¬ (false = true) by decide)] at H; exact H
                  clear H
                  have H := H1
                  clear H1
                  by_cases c29 : t104 = 0
                  · rw [if_pos c29] at H
                    have c29b0 : (t104 == 0) = true := beq_iff_eq.mpr c29
                    have c29b1 : (t104 != 0) = false := bne_eq_false_iff_eq.mpr c29
                    clear c29
                    by_cases c30 : t108 = 0
                    · rw [if_pos c30] at H
                      have c30b0 : (t108 == 0) = true := beq_iff_eq.mpr c30
                      have c30b1 : (t108 != 0) = false := bne_eq_false_iff_eq.mpr c30
                      clear c30
                      replace H := Option.bind_eq_some_iff.mp H
                      obtain ⟨t114, A310, H⟩ := H
                      replace H : ((downpourref07_Same.f kj21 t103 t114).bind fun t117 => (if t117 = true then ((downpourref07_Table.f kj21 a0).bind fun t118 => ((downpourref07_Same.f kj21 t107 t118).bind fun t121 => (some t121))) else (some false))) = some r := H
                      have A31 := Aside0.mk A310
                      clear A310
                      replace H := Option.bind_eq_some_iff.mp H
                      obtain ⟨t117, A320, H⟩ := H
                      replace H : (if t117 = true then ((downpourref07_Table.f kj21 a0).bind fun t118 => ((downpourref07_Same.f kj21 t107 t118).bind fun t121 => (some t121))) else (some false)) = some r := H
                      have A32 := Aside0.mk A320
                      clear A320
                      by_cases c33 : t117 = true
                      · subst c33
                        have H1 : ((downpourref07_Table.f kj21 a0).bind fun t118 => ((downpourref07_Same.f kj21 t107 t118).bind fun t121 => (some t121))) = some r := by rw [if_pos rfl] at H; exact H
                        clear H
                        have H := H1
                        clear H1
                        replace H := Option.bind_eq_some_iff.mp H
                        obtain ⟨t118, A340, H⟩ := H
                        replace H : ((downpourref07_Same.f kj21 t107 t118).bind fun t121 => (some t121)) = some r := H
                        have A34 := Aside0.mk A340
                        clear A340
                        replace H := Option.bind_eq_some_iff.mp H
                        obtain ⟨t121, A350, H⟩ := H
                        replace H : (some t121) = some r := H
                        have A35 := Aside0.mk A350
                        clear A350
                        obtain rfl := Option.some.inj H
                        go_wp2_with (first | (go_at_call 16; (with_reducible refine (downpourref07_Weights.calls kj21 a0 t114 _ A31.out).mono ?_); rintro e w36 ⟨v115, rfl, ho0, hb⟩; have n0_ := Aside0.mk (Kd.R_elder' (by (with_reducible repeat (first | apply Kd.R_alloc | apply Kd.R_drewN | apply Kd.R_drew)); exact HO_7.out) (Kd.R_base ho0) hb); have n1_ := Aside0.mk (Kd.R_elder' (by (with_reducible repeat (first | apply Kd.R_alloc | apply Kd.R_drewN | apply Kd.R_drew)); exact HO_9.out) (Kd.R_base ho0) hb); have n2_ := Aside0.mk (Kd.R_lower (Kd.R_new' (Kd.R_new' ho0 (Kd.R_lt (by (with_reducible repeat (first | apply Kd.R_alloc | apply Kd.R_drewN | apply Kd.R_drew)); exact HO_7.out))) (Kd.R_lt (by (with_reducible repeat (first | apply Kd.R_alloc | apply Kd.R_drewN | apply Kd.R_drew)); exact HO_9.out))) (below_size (by repeat (first | (with_reducible first | exact HB.out | apply below_alloc | apply pw_below_drewN | apply below_drew1) | exact HB.out)))); have n3_ := Aside0.mk (below_step (by repeat (first | (with_reducible first | exact HB.out | apply below_alloc | apply pw_below_drewN | apply below_drew1) | exact HB.out)) hb); clear HO_7; clear HO_9; clear HB; have HO_7 := n0_; have HO_9 := n1_; have HO116 := n2_; have HB := n3_; clear n0_ n1_ n2_ n3_; (try clear hb); (try clear hb2); (try clear hk); (try clear hi); (try clear ho0); obtain ⟨Ao37, co37, eo37⟩ := Kd.R_slice HO_7.out; subst eo37; obtain ⟨Ao38, co38, eo38⟩ := Kd.R_slice HO116.out; subst eo38) | (go_at_call 15; (with_reducible refine (downpourref07_Same.calls kj21 _ _ t103 _ _ t114 true _ ?side1 ?side2 ?side3 ?side4 A32.out).mono ?_); (case side1 => repeat (first | exact (Kd.R_reads' HO_7.out).2.2 | (with_reducible refine Kd.C_alloc ?_ _) | (with_reducible refine Kd.C_drewN ?_ _) | (with_reducible refine Kd.C_drew ?_))); (case side2 => exact (Kd.R_reads' HO_7.out).2.1); (case side3 => repeat (first | exact (Kd.R_reads' HO116.out).2.2 | (with_reducible refine Kd.C_alloc ?_ _) | (with_reducible refine Kd.C_drewN ?_ _) | (with_reducible refine Kd.C_drew ?_))); (case side4 => exact (Kd.R_reads' HO116.out).2.1); rintro e w' ⟨rfl, ⟨nd, rfl⟩⟩) | (go_at_call 17; (with_reducible refine (downpourref07_Table.calls kj21 a0 t118 _ A34.out).mono ?_); rintro e w39 ⟨v119, rfl, ho0, hb⟩; have n0_ := Aside0.mk (Kd.R_elder' (by (with_reducible repeat (first | apply Kd.R_alloc | apply Kd.R_drewN | apply Kd.R_drew)); exact HO_7.out) (Kd.R_base ho0) hb); have n1_ := Aside0.mk (Kd.R_elder' (by (with_reducible repeat (first | apply Kd.R_alloc | apply Kd.R_drewN | apply Kd.R_drew)); exact HO_9.out) (Kd.R_base ho0) hb); have n2_ := Aside0.mk (Kd.R_elder' (by (with_reducible repeat (first | apply Kd.R_alloc | apply Kd.R_drewN | apply Kd.R_drew)); exact HO116.out) (Kd.R_base ho0) hb); have n3_ := Aside0.mk (Kd.R_lower (Kd.R_new' (Kd.R_new' (Kd.R_new' ho0 (Kd.R_lt (by (with_reducible repeat (first | apply Kd.R_alloc | apply Kd.R_drewN | apply Kd.R_drew)); exact HO_7.out))) (Kd.R_lt (by (with_reducible repeat (first | apply Kd.R_alloc | apply Kd.R_drewN | apply Kd.R_drew)); exact HO_9.out))) (Kd.R_lt (by (with_reducible repeat (first | apply Kd.R_alloc | apply Kd.R_drewN | apply Kd.R_drew)); exact HO116.out))) (below_size (by repeat (first | (with_reducible first | exact HB.out | apply below_alloc | apply pw_below_drewN | apply below_drew1) | exact HB.out)))); have n4_ := Aside0.mk (below_step (by repeat (first | (with_reducible first | exact HB.out | apply below_alloc | apply pw_below_drewN | apply below_drew1) | exact HB.out)) hb); clear HO_7; clear HO_9; clear HO116; clear HB; have HO_7 := n0_; have HO_9 := n1_; have HO116 := n2_; have HO120 := n3_; have HB := n4_; clear n0_ n1_ n2_ n3_ n4_; (try clear hb); (try clear hb2); (try clear hk); (try clear hi); (try clear ho0); obtain ⟨Ao40, co40, eo40⟩ := Kd.R_slice HO_9.out; subst eo40; obtain ⟨Ao41, co41, eo41⟩ := Kd.R_slice HO120.out; subst eo41) | (go_at_call 15; (with_reducible refine (downpourref07_Same.calls kj21 _ _ t107 _ _ t118 t121 _ ?side1 ?side2 ?side3 ?side4 A35.out).mono ?_); (case side1 => repeat (first | exact (Kd.R_reads' HO_9.out).2.2 | (with_reducible refine Kd.C_alloc ?_ _) | (with_reducible refine Kd.C_drewN ?_ _) | (with_reducible refine Kd.C_drew ?_))); (case side2 => exact (Kd.R_reads' HO_9.out).2.1); (case side3 => repeat (first | exact (Kd.R_reads' HO120.out).2.2 | (with_reducible refine Kd.C_alloc ?_ _) | (with_reducible refine Kd.C_drewN ?_ _) | (with_reducible refine Kd.C_drew ?_))); (case side4 => exact (Kd.R_reads' HO120.out).2.1); rintro e w' ⟨rfl, ⟨nd, rfl⟩⟩))
                        go_ret
                        exact ⟨by first | rfl | (simp [errW_none, errW_some] <;> rfl) | (simp [*, errW_none, errW_some] <;> rfl), by repeat (first | (with_reducible first | exact HB.out | apply below_alloc | apply pw_below_drewN | apply below_drew1) | exact HB.out)⟩
                      · replace c33 := Bool.eq_false_iff.mpr c33
                        subst c33
                        have H1 : (some false) = some r := by rw [if_neg (show ¬ (false = true) by decide)] at H; exact H
                        clear H
                        have H := H1
                        clear H1
                        obtain rfl := Option.some.inj H
                        go_wp2_with (first | (go_at_call 16; (with_reducible refine (downpourref07_Weights.calls kj21 a0 t114 _ A31.out).mono ?_); rintro e w42 ⟨v115, rfl, ho0, hb⟩; have n0_ := Aside0.mk (Kd.R_elder' (by (with_reducible repeat (first | apply Kd.R_alloc | apply Kd.R_drewN | apply Kd.R_drew)); exact HO_7.out) (Kd.R_base ho0) hb); have n1_ := Aside0.mk (Kd.R_elder' (by (with_reducible repeat (first | apply Kd.R_alloc | apply Kd.R_drewN | apply Kd.R_drew)); exact HO_9.out) (Kd.R_base ho0) hb); have n2_ := Aside0.mk (Kd.R_lower (Kd.R_new' (Kd.R_new' ho0 (Kd.R_lt (by (with_reducible repeat (first | apply Kd.R_alloc | apply Kd.R_drewN | apply Kd.R_drew)); exact HO_7.out))) (Kd.R_lt (by (with_reducible repeat (first | apply Kd.R_alloc | apply Kd.R_drewN | apply Kd.R_drew)); exact HO_9.out))) (below_size (by repeat (first | (with_reducible first | exact HB.out | apply below_alloc | apply pw_below_drewN | apply below_drew1) | exact HB.out)))); have n3_ := Aside0.mk (below_step (by repeat (first | (with_reducible first | exact HB.out | apply below_alloc | apply pw_below_drewN | apply below_drew1) | exact HB.out)) hb); clear HO_7; clear HO_9; clear HB; have HO_7 := n0_; have HO_9 := n1_; have HO116 := n2_; have HB := n3_; clear n0_ n1_ n2_ n3_; (try clear hb); (try clear hb2); (try clear hk); (try clear hi); (try clear ho0); obtain ⟨Ao43, co43, eo43⟩ := Kd.R_slice HO_7.out; subst eo43; obtain ⟨Ao44, co44, eo44⟩ := Kd.R_slice HO116.out; subst eo44) | (go_at_call 15; (with_reducible refine (downpourref07_Same.calls kj21 _ _ t103 _ _ t114 false _ ?side1 ?side2 ?side3 ?side4 A32.out).mono ?_); (case side1 => repeat (first | exact (Kd.R_reads' HO_7.out).2.2 | (with_reducible refine Kd.C_alloc ?_ _) | (with_reducible refine Kd.C_drewN ?_ _) | (with_reducible refine Kd.C_drew ?_))); (case side2 => exact (Kd.R_reads' HO_7.out).2.1); (case side3 => repeat (first | exact (Kd.R_reads' HO116.out).2.2 | (with_reducible refine Kd.C_alloc ?_ _) | (with_reducible refine Kd.C_drewN ?_ _) | (with_reducible refine Kd.C_drew ?_))); (case side4 => exact (Kd.R_reads' HO116.out).2.1); rintro e w' ⟨rfl, ⟨nd, rfl⟩⟩))
                        go_ret
                        exact ⟨by first | rfl | (simp [errW_none, errW_some] <;> rfl) | (simp [*, errW_none, errW_some] <;> rfl), by repeat (first | (with_reducible first | exact HB.out | apply below_alloc | apply pw_below_drewN | apply below_drew1) | exact HB.out)⟩
                    · rw [if_neg c30] at H
                      have c30b0 : (t108 == 0) = false := beq_eq_false_iff_ne.mpr c30
                      have c30b1 : (t108 != 0) = true := bne_iff_ne.mpr c30
                      obtain rfl := Option.some.inj H
                      go_wp2
                      go_ret
                      exact ⟨by first | rfl | (simp [errW_none, errW_some] <;> rfl) | (simp [*, errW_none, errW_some] <;> rfl), by repeat (first | (with_reducible first | exact HB.out | apply below_alloc | apply pw_below_drewN | apply below_drew1) | exact HB.out)⟩
                  · rw [if_neg c29] at H
                    have c29b0 : (t104 == 0) = false := beq_eq_false_iff_ne.mpr c29
                    have c29b1 : (t104 != 0) = true := bne_iff_ne.mpr c29
                    obtain rfl := Option.some.inj H
                    go_wp2
                    go_ret
                    exact ⟨by first | rfl | (simp [errW_none, errW_some] <;> rfl) | (simp [*, errW_none, errW_some] <;> rfl), by repeat (first | (with_reducible first | exact HB.out | apply below_alloc | apply pw_below_drewN | apply below_drew1) | exact HB.out)⟩

/-- THE ONE PURE STATEMENT of downpourlaw07_DegreeTables: yours. -/
def downpourlaw07_DegreeTables.Pure : Prop := ∀ (a0 : Int) (a1 : Int), (Lit.int .i64 a0).wf = true → (Lit.int .i64 a1).wf = true → ∃ k, downpourlaw07_DegreeTables.f k a0 a1 = some true
theorem downpourlaw07_DegreeTables.walk (P : downpourlaw07_DegreeTables.Pure) (a0 : Int) (a1 : Int) (w : World) (w0 : (Lit.int .i64 a0).wf = true) (w1 : (Lit.int .i64 a1).wf = true) :
    Calls Try.prog 5 #[.int .i64 a0, .int .i64 a1] w fun e w' => e = .returned (.bool true) ∧ Below w.heap.size w w' := by
  obtain ⟨k, h⟩ := P a0 a1 w0 w1
  refine (downpourlaw07_DegreeTables.calls k a0 a1 true w h).mono ?_
  rintro e w' ⟨rfl, hd⟩
  exact ⟨rfl, hd⟩

end Go.Proofs.Ytjgcfdiicjbdoaa.Q

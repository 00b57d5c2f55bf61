/- Functions and their contracts, printed by stubprint.py (a program of this repo, which runs the kit's print with some functions proved by hand): each call answers what the plain function tells. -/
import Derived.Test.YtjgcfdiicjbdoaaPx0
import Derived.Test.YtjgcfdiicjbdoaaPx4
namespace Go.Proofs.Ytjgcfdiicjbdoaa.P
open Go.Proofs.Ytjgcfdiicjbdoaa.Own
open Go.RowKit Go.Proofs.YtjgcfdiicjbdoaaW.PrintWords Go.Proofs.YtjgcfdiicjbdoaaW.PrintLast Go.Proofs.YtjgcfdiicjbdoaaW.PrintMore
attribute [local go_sem] max2_int min2_int max_two min_two max_three min_three max_four min_four   -- for this text's walks alone
set_option linter.unusedVariables false
set_option linter.unusedSimpArgs false

/-! ### downpourref07_Weight: function 24 -/
def downpourref07_Weight.j0 : Nat → Int → Int → Int → Int → Int → Option (Int)
  | 0, _, _, _, _, _ => none
  | k + 1, x0, x1, x5, x6, x7 => if x1 < x6 then (if (IntKind.u64.wrap (wrap64 (x1 * x0))) = 0 then (none) else (if x1 = x6 then ((downpourref07_digits.f k x5).bind fun t133 => (if (IntKind.u64.wrap (x0)) = 0 then (none) else (some (IntKind.u64.wrap ((IntKind.u64.wrap (x7 + (IntKind.u64.wrap (Int.tdiv (IntKind.u64.wrap (4294967296 * (IntKind.u64.wrap (x5)))) (IntKind.u64.wrap (wrap64 (x1 * x0))))))) + (IntKind.u64.wrap (Int.tdiv (IntKind.u64.wrap ((IntKind.u64.wrap (4294967296 * (IntKind.u64.wrap (x5)))) * (IntKind.u64.wrap (t133)))) (IntKind.u64.wrap (x0))))))))) else (some (IntKind.u64.wrap (x7 + (IntKind.u64.wrap (Int.tdiv (IntKind.u64.wrap (4294967296 * (IntKind.u64.wrap (x5)))) (IntKind.u64.wrap (wrap64 (x1 * x0)))))))))) else (if x1 = x6 then ((downpourref07_digits.f k x5).bind fun t134 => (if (IntKind.u64.wrap (x0)) = 0 then (none) else (some (IntKind.u64.wrap (x7 + (IntKind.u64.wrap (Int.tdiv (IntKind.u64.wrap ((IntKind.u64.wrap (4294967296 * (IntKind.u64.wrap (x5)))) * (IntKind.u64.wrap (t134)))) (IntKind.u64.wrap (x0))))))))) else (some x7))
def downpourref07_Weight.f (k : Nat) (a0 : Int) (a1 : Int) : Option (Int) := (downpourref07_Root.f k a0).bind fun t132 => (if t132 = 0 then (none) else (if (IntKind.u64.wrap (a0)) = 0 then (none) else (if a1 > 1 then (if (IntKind.u64.wrap (wrap64 (a1 * (wrap64 (a1 - 1))))) = 0 then (none) else (downpourref07_Weight.j0 k a0 a1 t132 (wrap64 (Int.tdiv a0 t132)) (IntKind.u64.wrap ((4294967296 : Int) / (IntKind.u64.wrap (wrap64 (a1 * (wrap64 (a1 - 1))))))))) else (downpourref07_Weight.j0 k a0 a1 t132 (wrap64 (Int.tdiv a0 t132)) (IntKind.u64.wrap ((4294967296 : Int) / (IntKind.u64.wrap (a0))))))))
theorem downpourref07_Weight.mono_l : ∀ k, (∀ y0 y1 y2 y3 y4, LeO (downpourref07_Weight.j0 k y0 y1 y2 y3 y4) (downpourref07_Weight.j0 (k + 1) y0 y1 y2 y3 y4))
  | 0 => fun _ _ _ _ _ r h => by simp [downpourref07_Weight.j0] at h
  | k + 1 => by
    have ih0 := downpourref07_Weight.mono_l k
    · intro y0 y1 y2 y3 y4
      unfold downpourref07_Weight.j0
      repeat' first
      | (with_reducible exact ih0 _ _ _ _ _)
      | (with_reducible exact downpourref07_Root.mono _ _)
      | (with_reducible exact downpourref07_digits.mono _ _)
      | (with_reducible exact LeO.refl _)
      | (with_reducible exact LeO.none _)
      | (with_reducible refine LeO.ite ?_ ?_)
      | (with_reducible refine LeO.bind ?_ (fun _ => ?_))
      | exact ih0 _ _ _ _ _
      | exact downpourref07_Root.mono _ _
      | exact downpourref07_digits.mono _ _
      | exact LeO.none _
      | refine LeO.ite ?_ ?_
      | refine LeO.bind ?_ (fun _ => ?_)
theorem downpourref07_Weight.mono : ∀ a0 a1 k, LeO (downpourref07_Weight.f k a0 a1) (downpourref07_Weight.f (k + 1) a0 a1) := by
  intro a0 a1 k
  have ih0 := downpourref07_Weight.mono_l k
  unfold downpourref07_Weight.f
  repeat' first
      | (with_reducible exact ih0 _ _ _ _ _)
      | (with_reducible exact downpourref07_Root.mono _ _)
      | (with_reducible exact downpourref07_digits.mono _ _)
      | (with_reducible exact LeO.refl _)
      | (with_reducible exact LeO.none _)
      | (with_reducible refine LeO.ite ?_ ?_)
      | (with_reducible refine LeO.bind ?_ (fun _ => ?_))
      | exact ih0 _ _ _ _ _
      | exact downpourref07_Root.mono _ _
      | exact downpourref07_digits.mono _ _
      | exact LeO.none _
      | refine LeO.ite ?_ ?_
      | refine LeO.bind ?_ (fun _ => ?_)
set_option maxHeartbeats 8000000 in
set_option maxRecDepth 100000 in
theorem downpourref07_Weight.calls (k : Nat) (a0 : Int) (a1 : Int) (r : Int) (w : World) (h : downpourref07_Weight.f k a0 a1 = some r) :
    Calls Try.prog 24 #[.int .i64 a0, .int .i64 a1] w fun e w' => e = .returned (.int .u64 r) ∧ Drawn0 w w' := by
  have H : ((downpourref07_Root.f k a0).bind fun t132 => (if t132 = 0 then (none) else (if (IntKind.u64.wrap (a0)) = 0 then (none) else (if a1 > 1 then (if (IntKind.u64.wrap (wrap64 (a1 * (wrap64 (a1 - 1))))) = 0 then (none) else (downpourref07_Weight.j0 k a0 a1 t132 (wrap64 (Int.tdiv a0 t132)) (IntKind.u64.wrap ((4294967296 : Int) / (IntKind.u64.wrap (wrap64 (a1 * (wrap64 (a1 - 1))))))))) else (downpourref07_Weight.j0 k a0 a1 t132 (wrap64 (Int.tdiv a0 t132)) (IntKind.u64.wrap ((4294967296 : Int) / (IntKind.u64.wrap (a0))))))))) = some r := h
  clear h
  replace H := Option.bind_eq_some_iff.mp H
  obtain ⟨t132, A30, H⟩ := H
  replace H : (if t132 = 0 then (none) else (if (IntKind.u64.wrap (a0)) = 0 then (none) else (if a1 > 1 then (if (IntKind.u64.wrap (wrap64 (a1 * (wrap64 (a1 - 1))))) = 0 then (none) else (downpourref07_Weight.j0 k a0 a1 t132 (wrap64 (Int.tdiv a0 t132)) (IntKind.u64.wrap ((4294967296 : Int) / (IntKind.u64.wrap (wrap64 (a1 * (wrap64 (a1 - 1))))))))) else (downpourref07_Weight.j0 k a0 a1 t132 (wrap64 (Int.tdiv a0 t132)) (IntKind.u64.wrap ((4294967296 : Int) / (IntKind.u64.wrap (a0)))))))) = some r := H
  have A3 := Aside0.mk A30
  clear A30
  by_cases c4 : t132 = 0
  · rw [if_pos c4] at H
    exact absurd H (by simp)
  · rw [if_neg c4] at H
    have c4b0 : (t132 == 0) = false := beq_eq_false_iff_ne.mpr c4
    have c4b1 : (t132 != 0) = true := bne_iff_ne.mpr c4
    by_cases c5 : (IntKind.u64.wrap (a0)) = 0
    · rw [if_pos c5] at H
      exact absurd H (by simp)
    · rw [if_neg c5] at H
      have c5b0 : ((IntKind.u64.wrap (a0)) == 0) = false := beq_eq_false_iff_ne.mpr c5
      have c5b1 : ((IntKind.u64.wrap (a0)) != 0) = true := bne_iff_ne.mpr c5
      have HC6 := Aside0.mk H
      clear H
      try have c4z := beq_eq_false_iff_ne.mp c4b0
      try have c5z := beq_eq_false_iff_ne.mp c5b0
      go_enter Try.func24, Try.ntmps24
      go_upto_if 17 with (first | ((with_reducible refine gate_callee (f := 14) rfl ?_); refine goesL_ (some 9) rfl rfl Try.func14 (by kernel_rfl) rfl #[.int .i64 a0] rfl (by (try simp only [List.map_toArray, List.map_cons, List.map_nil]); first | done | rfl | (simp only [List.length_drop, List.length_take]; rfl)) ?_; (with_reducible refine (downpourref07_Root.calls k a0 t132 _ A3.out).mono ?_); rintro e w' ⟨rfl, ⟨nd, rfl⟩⟩; refine ⟨_, rfl, ?_⟩))
      (try simp only [Act.put, List.setIfInBounds_toArray, List.set_cons_zero, List.set_cons_succ])
      go_cut [7] (fun v7 wc => ∃ (kq : Nat) (x7_5 : Int), v7 = .int .u64 x7_5 ∧ Aside0 (downpourref07_Weight.j0 kq a0 a1 t132 (wrap64 (Int.tdiv a0 t132)) x7_5 = some r) ∧ Aside0 (kq ≤ k) ∧ Drawn0 w wc)
      case first =>
        have H := HC6.out
        clear HC6
        by_cases c7 : a1 > 1
        · rw [if_pos c7] at H
          have c7b0 : decide (1 < a1) = true := decide_eq_true c7
          clear c7
          (first | rw [c7b0] | (simp only [i64_w, i32_w]; rw [c7b0]) | skip)
          by_cases c8 : (IntKind.u64.wrap (wrap64 (a1 * (wrap64 (a1 - 1))))) = 0
          · rw [if_pos c8] at H
            exact absurd H (by simp)
          · rw [if_neg c8] at H
            have c8b0 : ((IntKind.u64.wrap (wrap64 (a1 * (wrap64 (a1 - 1))))) == 0) = false := beq_eq_false_iff_ne.mpr c8
            have c8b1 : ((IntKind.u64.wrap (wrap64 (a1 * (wrap64 (a1 - 1))))) != 0) = true := bne_iff_ne.mpr c8
            have H' := Aside0.mk H
            clear H
            go_wp2
            go_meet
            case rel => exact ⟨_, (IntKind.u64.wrap ((4294967296 : Int) / (IntKind.u64.wrap (wrap64 (a1 * (wrap64 (a1 - 1))))))), (by first | rfl | (simp; done) | (simp [*]; done) | (rw [Int.tdiv_eq_ediv_of_nonneg]; decide)), H', ⟨by first | omega | exact Nat.le_refl _⟩, by repeat (first | exact Drawn0.refl _ | apply Drawn0.step)⟩
        · rw [if_neg c7] at H
          have c7b0 : decide (1 < a1) = false := decide_eq_false c7
          clear c7
          (first | rw [c7b0] | (simp only [i64_w, i32_w]; rw [c7b0]) | skip)
          have H' := Aside0.mk H
          clear H
          go_wp2
          go_meet
          case rel => exact ⟨_, (IntKind.u64.wrap ((4294967296 : Int) / (IntKind.u64.wrap (a0)))), (by first | rfl | (simp; done) | (simp [*]; done) | (rw [Int.tdiv_eq_ediv_of_nonneg]; decide)), H', ⟨by first | omega | exact Nat.le_refl _⟩, by repeat (first | exact Drawn0.refl _ | apply Drawn0.step)⟩
      case rest =>
        clear HC6
        try clear c1
        try clear c2
        try clear p2
        try clear c4
        try clear c4b0
        try clear c4b1
        try clear c5
        try clear c5b0
        try clear c5b1
        try clear p6
        try clear c7
        try clear c7b0
        try clear c8
        try clear c8b0
        try clear c8b1
        obtain ⟨kq, x7_5, rfl, HA, HJ5, ⟨mc5, rfl⟩⟩ := hcut
        cases kq with
        | zero => exact absurd HA.out (by simp [downpourref07_Weight.j0])
        | succ kj5 =>
          have H := HA.out
          clear HA
          simp only [downpourref07_Weight.j0] at H
          by_cases c9 : a1 < (wrap64 (Int.tdiv a0 t132))
          · rw [if_pos c9] at H
            have c9b0 : decide (a1 < (wrap64 (Int.tdiv a0 t132))) = true := decide_eq_true c9
            clear c9
            by_cases c10 : (IntKind.u64.wrap (wrap64 (a1 * a0))) = 0
            · rw [if_pos c10] at H
              exact absurd H (by simp)
            · rw [if_neg c10] at H
              have c10b0 : ((IntKind.u64.wrap (wrap64 (a1 * a0))) == 0) = false := beq_eq_false_iff_ne.mpr c10
              have c10b1 : ((IntKind.u64.wrap (wrap64 (a1 * a0))) != 0) = true := bne_iff_ne.mpr c10
              by_cases c11 : a1 = (wrap64 (Int.tdiv a0 t132))
              · rw [if_pos c11] at H
                have c11b0 : (a1 == (wrap64 (Int.tdiv a0 t132))) = true := beq_iff_eq.mpr c11
                have c11b1 : (a1 != (wrap64 (Int.tdiv a0 t132))) = false := bne_eq_false_iff_eq.mpr c11
                clear c11
                replace H := Option.bind_eq_some_iff.mp H
                obtain ⟨t133, A120, H⟩ := H
                replace H : (if (IntKind.u64.wrap (a0)) = 0 then (none) else (some (IntKind.u64.wrap ((IntKind.u64.wrap (x7_5 + (IntKind.u64.wrap (Int.tdiv (IntKind.u64.wrap (4294967296 * (IntKind.u64.wrap (t132)))) (IntKind.u64.wrap (wrap64 (a1 * a0))))))) + (IntKind.u64.wrap (Int.tdiv (IntKind.u64.wrap ((IntKind.u64.wrap (4294967296 * (IntKind.u64.wrap (t132)))) * (IntKind.u64.wrap (t133)))) (IntKind.u64.wrap (a0)))))))) = some r := H
                have A12 := Aside0.mk A120
                clear A120
                by_cases c13 : (IntKind.u64.wrap (a0)) = 0
                · rw [if_pos c13] at H
                  exact absurd H (by simp)
                · rw [if_neg c13] at H
                  have c13b0 : ((IntKind.u64.wrap (a0)) == 0) = false := beq_eq_false_iff_ne.mpr c13
                  have c13b1 : ((IntKind.u64.wrap (a0)) != 0) = true := bne_iff_ne.mpr c13
                  obtain rfl := Option.some.inj H
                  go_wp2_with (first | ((with_reducible refine gate_callee (f := 28) rfl ?_); refine goesL_ (some 45) rfl rfl Try.func28 (by kernel_rfl) rfl #[.int .i64 t132] rfl (by (try simp only [List.map_toArray, List.map_cons, List.map_nil]); first | done | rfl | (simp only [List.length_drop, List.length_take]; rfl)) ?_; (with_reducible refine (downpourref07_digits.calls kj5 t132 t133 _ A12.out).mono ?_); rintro e w' ⟨rfl, ⟨nd, rfl⟩⟩; refine ⟨_, rfl, ?_⟩))
                  go_ret
                  exact ⟨by first | rfl | (simp; done) | (simp [*]; done), by repeat (first | exact Drawn0.refl _ | apply Drawn0.step)⟩
              · rw [if_neg c11] at H
                have c11b0 : (a1 == (wrap64 (Int.tdiv a0 t132))) = false := beq_eq_false_iff_ne.mpr c11
                have c11b1 : (a1 != (wrap64 (Int.tdiv a0 t132))) = true := bne_iff_ne.mpr c11
                obtain rfl := Option.some.inj H
                go_wp2
                go_ret
                exact ⟨by first | rfl | (simp; done) | (simp [*]; done), by repeat (first | exact Drawn0.refl _ | apply Drawn0.step)⟩
          · rw [if_neg c9] at H
            have c9b0 : decide (a1 < (wrap64 (Int.tdiv a0 t132))) = false := decide_eq_false c9
            clear c9
            by_cases c14 : a1 = (wrap64 (Int.tdiv a0 t132))
            · rw [if_pos c14] at H
              have c14b0 : (a1 == (wrap64 (Int.tdiv a0 t132))) = true := beq_iff_eq.mpr c14
              have c14b1 : (a1 != (wrap64 (Int.tdiv a0 t132))) = false := bne_eq_false_iff_eq.mpr c14
              clear c14
              replace H := Option.bind_eq_some_iff.mp H
              obtain ⟨t134, A150, H⟩ := H
              replace H : (if (IntKind.u64.wrap (a0)) = 0 then (none) else (some (IntKind.u64.wrap (x7_5 + (IntKind.u64.wrap (Int.tdiv (IntKind.u64.wrap ((IntKind.u64.wrap (4294967296 * (IntKind.u64.wrap (t132)))) * (IntKind.u64.wrap (t134)))) (IntKind.u64.wrap (a0)))))))) = some r := H
              have A15 := Aside0.mk A150
              clear A150
              by_cases c16 : (IntKind.u64.wrap (a0)) = 0
              · rw [if_pos c16] at H
                exact absurd H (by simp)
              · rw [if_neg c16] at H
                have c16b0 : ((IntKind.u64.wrap (a0)) == 0) = false := beq_eq_false_iff_ne.mpr c16
                have c16b1 : ((IntKind.u64.wrap (a0)) != 0) = true := bne_iff_ne.mpr c16
                obtain rfl := Option.some.inj H
                go_wp2_with (first | ((with_reducible refine gate_callee (f := 28) rfl ?_); refine goesL_ (some 45) rfl rfl Try.func28 (by kernel_rfl) rfl #[.int .i64 t132] rfl (by (try simp only [List.map_toArray, List.map_cons, List.map_nil]); first | done | rfl | (simp only [List.length_drop, List.length_take]; rfl)) ?_; (with_reducible refine (downpourref07_digits.calls kj5 t132 t134 _ A15.out).mono ?_); rintro e w' ⟨rfl, ⟨nd, rfl⟩⟩; refine ⟨_, rfl, ?_⟩))
                go_ret
                exact ⟨by first | rfl | (simp; done) | (simp [*]; done), by repeat (first | exact Drawn0.refl _ | apply Drawn0.step)⟩
            · rw [if_neg c14] at H
              have c14b0 : (a1 == (wrap64 (Int.tdiv a0 t132))) = false := beq_eq_false_iff_ne.mpr c14
              have c14b1 : (a1 != (wrap64 (Int.tdiv a0 t132))) = true := bne_iff_ne.mpr c14
              obtain rfl := Option.some.inj H
              go_wp2
              go_ret
              exact ⟨by first | rfl | (simp; done) | (simp [*]; done), by repeat (first | exact Drawn0.refl _ | apply Drawn0.step)⟩

/-! ### downpourref07_Weights: function 16 -/
def downpourref07_Weights.l0 : Nat → Int → List Int → Int → Option (List Int)
  | 0, _, _, _ => none
  | k + 1, x0, x3, x4 => if x4 ≤ x0 then ((downpourref07_Weight.f k x0 x4).bind fun t138 => (if x3.length < 17592186044416 then (downpourref07_Weights.l0 k x0 (x3 ++ [t138]) (wrap64 (x4 + 1))) else (none))) else (some x3)
def downpourref07_Weights.f (k : Nat) (a0 : Int) : Option (List Int) := downpourref07_Weights.l0 k a0 (([] : List Int)) 1
theorem downpourref07_Weights.mono_l : ∀ k, (∀ y0 y1 y2, LeO (downpourref07_Weights.l0 k y0 y1 y2) (downpourref07_Weights.l0 (k + 1) y0 y1 y2))
  | 0 => fun _ _ _ r h => by simp [downpourref07_Weights.l0] at h
  | k + 1 => by
    have ih0 := downpourref07_Weights.mono_l k
    · intro y0 y1 y2
      unfold downpourref07_Weights.l0
      repeat' first
      | (with_reducible exact ih0 _ _ _)
      | (with_reducible exact downpourref07_Weight.mono _ _ _)
      | (with_reducible exact LeO.refl _)
      | (with_reducible exact LeO.none _)
      | (with_reducible refine LeO.ite ?_ ?_)
      | (with_reducible refine LeO.bind ?_ (fun _ => ?_))
      | exact ih0 _ _ _
      | exact downpourref07_Weight.mono _ _ _
      | exact LeO.none _
      | refine LeO.ite ?_ ?_
      | refine LeO.bind ?_ (fun _ => ?_)
theorem downpourref07_Weights.mono : ∀ a0 k, LeO (downpourref07_Weights.f k a0) (downpourref07_Weights.f (k + 1) a0) := by
  intro a0 k
  have ih0 := downpourref07_Weights.mono_l k
  unfold downpourref07_Weights.f
  repeat' first
      | (with_reducible exact ih0 _ _ _)
      | (with_reducible exact downpourref07_Weight.mono _ _ _)
      | (with_reducible exact LeO.refl _)
      | (with_reducible exact LeO.none _)
      | (with_reducible refine LeO.ite ?_ ?_)
      | (with_reducible refine LeO.bind ?_ (fun _ => ?_))
      | exact ih0 _ _ _
      | exact downpourref07_Weight.mono _ _ _
      | exact LeO.none _
      | refine LeO.ite ?_ ?_
      | refine LeO.bind ?_ (fun _ => ?_)
set_option maxHeartbeats 8000000 in
set_option maxRecDepth 100000 in
theorem downpourref07_Weights.calls (k : Nat) (a0 : Int) (r : List Int) (w : World) (h : downpourref07_Weights.f k a0 = some r) :
    Calls Try.prog 16 #[.int .i64 a0] w fun e w' => ∃ v0_ : Value, e = .returned (v0_) ∧ Kd.R (Kd.int .u64) 23 w' w.heap.size (fun _ => True) v0_ r ∧ Below w.heap.size w w' := by
  have HB := Aside0.mk (Below.refl w.heap.size w)
  have H : (downpourref07_Weights.l0 k a0 (([] : List Int)) 1) = some r := h
  clear h
  obtain ⟨y135, hy135⟩ : ∃ y_ : List Int, y_ = (([] : List Int)) := ⟨_, rfl⟩
  replace H : (downpourref07_Weights.l0 k a0 y135 1) = some r := by first | (rw [hy135]; with_reducible exact H) | (have H2_ := (Option.bind_some _ _).symm.trans H; rw [hy135]; with_reducible exact H2_) | (have H2_ := (Option.bind_some _ _).symm.trans H; with_reducible exact H2_) | with_reducible exact H | (rw [hy135]; exact H) | exact H
  have Ny135 := Aside0.mk hy135
  clear hy135
  have H' := Aside0.mk H
  clear H
  go_enter Try.func16, Try.ntmps16
  go_wp2_with (first | ((with_reducible refine gate_dst (N := 5) rfl ?_); refine Kd.R_lit (Kd.int .u64) _ 23 ?hg (N := 5) ?hd (xs := ([] : List Int)) (inner := []) (ok := fun _ => True) (okp := fun _ => True) ?hr ?hp (fun _ hk => hk) trivial (Below.refl _ _) (Nat.le_refl _) (by simp) ?_; (case hd => rfl); (case hg => rfl); (case hr => first | (go_simp; done) | (go_simp; rfl)); (case hp => exact (Reps.none _ _)); intro v136 w2 ho3 hb hg_ hnew_; clear hg_ hnew_; (first | rw [← Ny135.out] at ho3 | (simp only [Int.reduceToNat] at ho3; rw [← Ny135.out] at ho3)); have n0_ := Aside0.mk (Kd.R_lower ho3 (below_size (by repeat (first | (with_reducible first | exact HB.out | apply below_alloc | apply pw_below_drewN | apply below_drew1) | exact HB.out)))); have n1_ := Aside0.mk (below_step (by repeat (first | (with_reducible first | exact HB.out | apply below_alloc | apply pw_below_drewN | apply below_drew1) | exact HB.out)) hb); clear HB; have HO137 := n0_; have HB := n1_; clear n0_ n1_; clear hb ho3))
  go_loopg [3, 4] k (fun kq v3 v4 w' => ∃ (x3_1 : List Int) (x4_1 : Int), v4 = .int .i64 x4_1 ∧ Aside0 (downpourref07_Weights.l0 kq a0 x3_1 x4_1 = some r) ∧ Aside0 (kq ≤ k) ∧ Aside0 (Kd.R (Kd.int .u64) 23 w' w.heap.size (fun _ => True) v3 x3_1) ∧ Aside0 (Below w.heap.size w w'))
  case atStart => exact ⟨(y135), (1), (by first | rfl | (simp; done) | (simp [*]; done) | (rw [Int.tdiv_eq_ediv_of_nonneg]; decide)), H', ⟨Nat.le_refl _⟩, ⟨by (with_reducible repeat (first | apply Kd.R_alloc | apply Kd.R_drewN | apply Kd.R_drew)); exact HO137.out⟩, ⟨by repeat (first | (with_reducible first | exact HB.out | apply below_alloc | apply pw_below_drewN | apply below_drew1) | exact HB.out)⟩⟩
  case round =>
    clear H'
    try clear c1
    try clear p2
    obtain ⟨x3_1, x4_1, rfl, HA, HK1, HO_3, HB⟩ := hrel
    cases gk with
    | zero => exact absurd HA.out (by simp [downpourref07_Weights.l0])
    | succ k1 =>
      have H := HA.out
      clear HA
      simp only [downpourref07_Weights.l0] at H
      by_cases c4 : x4_1 ≤ a0
      · rw [if_pos c4] at H
        have c4b0 : decide (x4_1 ≤ a0) = true := decide_eq_true c4
        clear c4
        replace H := Option.bind_eq_some_iff.mp H
        obtain ⟨t138, A50, H⟩ := H
        replace H : (if x3_1.length < 17592186044416 then (downpourref07_Weights.l0 k1 a0 (x3_1 ++ [t138]) (wrap64 (x4_1 + 1))) else (none)) = some r := H
        have A5 := Aside0.mk A50
        clear A50
        by_cases c6 : x3_1.length < 17592186044416
        · rw [if_pos c6] at H
          have LMc6 := Aside0.mk c6
          clear c6
          obtain ⟨y139, hy139⟩ : ∃ y_ : List Int, y_ = (x3_1 ++ [t138]) := ⟨_, rfl⟩
          replace H : (downpourref07_Weights.l0 k1 a0 y139 (wrap64 (x4_1 + 1))) = some r := by first | (rw [hy139]; with_reducible exact H) | (have H2_ := (Option.bind_some _ _).symm.trans H; rw [hy139]; with_reducible exact H2_) | (have H2_ := (Option.bind_some _ _).symm.trans H; with_reducible exact H2_) | with_reducible exact H | (rw [hy139]; exact H) | exact H
          have Ny139 := Aside0.mk hy139
          clear hy139
          have H' := Aside0.mk H
          clear H
          go_wp2_with (first | ((with_reducible refine gate_callee (f := 24) rfl ?_); refine goesL_ (some 14) rfl rfl Try.func24 (by kernel_rfl) rfl #[.int .i64 a0, .int .i64 x4_1] rfl (by (try simp only [List.map_toArray, List.map_cons, List.map_nil]); first | done | rfl | (simp only [List.length_drop, List.length_take]; rfl)) ?_; (with_reducible refine (downpourref07_Weight.calls k1 a0 x4_1 t138 _ A5.out).mono ?_); rintro e w' ⟨rfl, ⟨nd, rfl⟩⟩; refine ⟨_, rfl, ?_⟩) | ((with_reducible refine gate_builtin (b := .append) (xs := #[.tmp 11, .tmp 15]) rfl ?_); at_builtin; refine Kd.R_append (Kd.int .u64) (w0 := w) w.heap.size rfl (.tmp 11) (.tmp 15) 22 23 (.int .u64 0) 8 rfl Try.underlying22 info23 rfl (by decide) (by omega) u3 x3_1 t138 [.int .u64 t138] (fun _ => True) (fun _ => False) rfl rfl ?aP (fun _ hk => hk.elim) ?aF ?aO ?aB ?aS ?aL ?_; (case aP => exact rfl); (case aB => exact (by repeat (first | (with_reducible first | exact HB.out | apply below_alloc | apply pw_below_drewN | apply below_drew1) | exact HB.out))); (case aF => exact (fun _ _ => trivial)); (case aO => exact (by (with_reducible repeat (first | apply Kd.R_alloc | apply Kd.R_drewN | apply Kd.R_drew)); exact HO_3.out)); (case aS => exact (below_size (by repeat (first | (with_reducible first | exact HB.out | apply below_alloc | apply pw_below_drewN | apply below_drew1) | exact HB.out)))); (case aL => have := LMc6.out; omega); intro v140 w7 ho hb hg hat; rw [← Ny139.out] at ho; have n0_ := Aside0.mk (hb); have n1_ := Aside0.mk (ho); clear HB; clear HO_3; have HB := n0_; have HO141 := n1_; clear n0_ n1_; clear ho hb hg hat))
          go_roundg k1
          case measure => have := HK1.out; omega
          case rel => exact ⟨(y139), (wrap64 (x4_1 + 1)), (by first | rfl | (simp; done) | (simp [*]; done) | (rw [Int.tdiv_eq_ediv_of_nonneg]; decide)), H', ⟨by have := HK1.out; omega⟩, ⟨by (with_reducible repeat (first | apply Kd.R_alloc | apply Kd.R_drewN | apply Kd.R_drew)); exact HO141.out⟩, ⟨by repeat (first | (with_reducible first | exact HB.out | apply below_alloc | apply pw_below_drewN | apply below_drew1) | exact HB.out)⟩⟩
        · rw [if_neg c6] at H
          exact absurd H (by simp)
      · rw [if_neg c4] at H
        have c4b0 : decide (x4_1 ≤ a0) = false := decide_eq_false c4
        clear c4
        obtain rfl := Option.some.inj H
        go_wp2
        go_ret
        exact ⟨_, by first | rfl | (simp [errW_none, errW_some] <;> rfl) | (simp [*, errW_none, errW_some] <;> rfl), by (with_reducible repeat (first | apply Kd.R_alloc | apply Kd.R_drewN | apply Kd.R_drew)); exact HO_3.out, by repeat (first | (with_reducible first | exact HB.out | apply below_alloc | apply pw_below_drewN | apply below_drew1) | exact HB.out)⟩

end Go.Proofs.Ytjgcfdiicjbdoaa.P

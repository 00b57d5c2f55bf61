/- Functions and their contracts, printed by stubprint.py (a program of this repo, which runs the kit's print with some functions proved by hand): each call answers what the plain function tells. -/
import Derived.Test.YtdkmmfhieapbaaaPx0
import Derived.Test.YtdkmmfhieapbaaaHeap
import Derived.Test.YtdkmmfhieapbaaaPx4
import Derived.Test.YtdkmmfhieapbaaaPx5
namespace Go.Proofs.Ytdkmmfhieapbaaa.P
open Go.Proofs.Ytdkmmfhieapbaaa.Own
open Go.RowKit Go.Proofs.YtdkmmfhieapbaaaW.PrintWords Go.Proofs.YtdkmmfhieapbaaaW.PrintLast Go.Proofs.YtdkmmfhieapbaaaW.PrintMore
attribute [local go_sem] max2_int min2_int max_two min_two max_three min_three max_four min_four   -- for this text's walks alone
set_option linter.unusedVariables false
set_option linter.unusedSimpArgs false

/-! ### downpourlaw14_RippleOnce: function 6 -/
mutual
def downpourlaw14_RippleOnce.l0 : Nat → List (S43) → List (S24) → List (S24) → Int → List (S24) → Int → List (S43) → Int → Int → Option (Bool)
  | 0, _, _, _, _, _, _, _, _, _ => none
  | k + 1, x0, x3, x4, x5, x6, x7, x33, x34, x35 => if x35 < x34 then (if 0 ≤ x35 then (if x35 < (x33.length : Int) then (if (rd_T43 x33 x35).f0 = true then (downpourlaw14_RippleOnce.l0 k x0 x3 x4 x5 x6 (wrap64 (x7 + 1)) x33 x34 (wrap64 (x35 + 1))) else (if x6.length < 8796093022208 then (downpourlaw14_RippleOnce.l0 k x0 x3 x4 x5 (x6 ++ [(⟨(rd_T43 x33 x35).f1.f0, (rd_T43 x33 x35).f1.f1⟩ : S24)]) x7 x33 x34 (wrap64 (x35 + 1))) else (none))) else (none)) else (none)) else ((some (([] : List (S24)) : List (S24))).bind fun y189 => (if y189.length + x3.length < 8796093022208 then ((some (y189 ++ x3 : List (S24))).bind fun y192 => (if y192.length + x4.length < 8796093022208 then ((some (y192 ++ x4 : List (S24))).bind fun y195 => (if (wrap64 ((x3.length : Int) + x5)) = x7 then (if (y195.length : Int) = (x6.length : Int) then ((ripple_Sorted.f y195).bind fun t198 => ((ripple_Sorted.f x6).bind fun t201 => ((downpourref14_Same.f k t198 t201).bind fun t204 => (if t204 = true then ((downpourlaw14_alive.f).bind fun t205 => (downpourlaw14_RippleOnce.j1 k x0 x3 x6 (!t205))) else (downpourlaw14_RippleOnce.j1 k x0 x3 x6 true))))) else (downpourlaw14_RippleOnce.j1 k x0 x3 x6 true)) else (downpourlaw14_RippleOnce.j1 k x0 x3 x6 true))) else (none))) else (none)))
def downpourlaw14_RippleOnce.j1 : Nat → List (S43) → List (S24) → List (S24) → Bool → Option (Bool)
  | 0, _, _, _, _ => none
  | k + 1, x0, x3, x6, x78 => if x78 = true then (some false) else (downpourlaw14_RippleOnce.l1 k x3 x6 0 0 (-1) x0 (x0.length : Int) 0)
def downpourlaw14_RippleOnce.l1 : Nat → List (S24) → List (S24) → Int → Int → Int → List (S43) → Int → Int → Option (Bool)
  | 0, _, _, _, _, _, _, _, _ => none
  | k + 1, x3, x6, x11, x12, x13, x79, x80, x81 => if x81 < x80 then (if 0 ≤ x81 then (if x81 < (x79.length : Int) then (if ((rd_T43 x79 x81).f0 = true) then (if x11 = 0 then (downpourlaw14_RippleOnce.l1 k x3 x6 x11 x12 x13 x79 x80 (wrap64 (x81 + 1))) else (if x12 = (x3.length : Int) then (some false) else (if x13 ≥ 0 then (if 0 ≤ x12 then (if x12 < (x3.length : Int) then (if 0 ≤ x13 then (if x13 < (x3.length : Int) then ((ripple_Before.f ((rd_T24 x3 x12).f0) ((rd_T24 x3 x12).f1) ((rd_T24 x3 x13).f0) ((rd_T24 x3 x13).f1)).bind fun t210 => (if t210 = true then (some false) else (downpourlaw14_RippleOnce.l1 k x3 x6 (wrap64 (x11 - 1)) (wrap64 (x12 + 1)) x12 x79 x80 (wrap64 (x81 + 1))))) else (none)) else (none)) else (none)) else (none)) else (downpourlaw14_RippleOnce.l1 k x3 x6 (wrap64 (x11 - 1)) (wrap64 (x12 + 1)) x12 x79 x80 (wrap64 (x81 + 1)))))) else (downpourlaw14_RippleOnce.l1 k x3 x6 (wrap64 (x11 + 1)) x12 (-1) x79 x80 (wrap64 (x81 + 1)))) else (none)) else (none)) else (downpourlaw14_RippleOnce.l2 k x6 ([] : List (S43)) x6 (x6.length : Int) 0)
def downpourlaw14_RippleOnce.l2 : Nat → List (S24) → List (S43) → List (S24) → Int → Int → Option (Bool)
  | 0, _, _, _, _, _ => none
  | k + 1, x6, x16, x115, x116, x117 => if x117 < x116 then (if 0 ≤ x117 then (if x117 < (x115.length : Int) then (if x16.length < 5864062014805 then (downpourlaw14_RippleOnce.l2 k x6 (x16 ++ [(⟨false, (⟨(rd_T24 x115 x117).f0, (rd_T24 x115 x117).f1⟩ : S24)⟩ : S43)]) x115 x116 (wrap64 (x117 + 1))) else (none)) else (none)) else (none)) else (downpourlaw14_RippleOnce.l3 k x6 x16 (x6.length : Int) 0)
def downpourlaw14_RippleOnce.l3 : Nat → List (S24) → List (S43) → Int → Int → Option (Bool)
  | 0, _, _, _, _ => none
  | k + 1, x6, x16, x128, x129 => if x129 < x128 then (if x16.length < 5864062014805 then (downpourlaw14_RippleOnce.l3 k x6 (x16 ++ [(⟨true, (⟨0, 0⟩ : S24)⟩ : S43)]) x128 (wrap64 (x129 + 1))) else (none)) else ((ripple_Run.f x16).bind fun bt219 => ((ripple_Sorted.f x6).bind fun t226 => ((downpourref14_Same.f k bt219.1 t226).bind fun t229 => (if t229 = true then (if (bt219.2.1.length : Int) = 0 then (some (bt219.2.2 == 0)) else (some false)) else (some false)))))
end
def downpourlaw14_RippleOnce.f (k : Nat) (l0 : List (S43)) : Option (Bool) := if 0 ≤ (mn (l0.length : Int) 80) then (if (mn (l0.length : Int) 80) ≤ (l0.length : Int) then ((some (l0.take ((mn (l0.length : Int) 80) : Int).toNat : List (S43))).bind fun y173 => ((ripple_Run.f y173).bind fun bt177 => (downpourlaw14_RippleOnce.l0 k y173 bt177.1 bt177.2.1 bt177.2.2 ([] : List (S24)) 0 y173 (y173.length : Int) 0))) else (none)) else (none)
theorem downpourlaw14_RippleOnce.mono_l : ∀ k, (∀ y0 y1 y2 y3 y4 y5 y6 y7 y8, LeO (downpourlaw14_RippleOnce.l0 k y0 y1 y2 y3 y4 y5 y6 y7 y8) (downpourlaw14_RippleOnce.l0 (k + 1) y0 y1 y2 y3 y4 y5 y6 y7 y8)) ∧ (∀ y0 y1 y2 y3, LeO (downpourlaw14_RippleOnce.j1 k y0 y1 y2 y3) (downpourlaw14_RippleOnce.j1 (k + 1) y0 y1 y2 y3)) ∧ (∀ y0 y1 y2 y3 y4 y5 y6 y7, LeO (downpourlaw14_RippleOnce.l1 k y0 y1 y2 y3 y4 y5 y6 y7) (downpourlaw14_RippleOnce.l1 (k + 1) y0 y1 y2 y3 y4 y5 y6 y7)) ∧ (∀ y0 y1 y2 y3 y4, LeO (downpourlaw14_RippleOnce.l2 k y0 y1 y2 y3 y4) (downpourlaw14_RippleOnce.l2 (k + 1) y0 y1 y2 y3 y4)) ∧ (∀ y0 y1 y2 y3, LeO (downpourlaw14_RippleOnce.l3 k y0 y1 y2 y3) (downpourlaw14_RippleOnce.l3 (k + 1) y0 y1 y2 y3))
  | 0 => ⟨fun _ _ _ _ _ _ _ _ _ r h => by simp [downpourlaw14_RippleOnce.l0] at h, fun _ _ _ _ r h => by simp [downpourlaw14_RippleOnce.j1] at h, fun _ _ _ _ _ _ _ _ r h => by simp [downpourlaw14_RippleOnce.l1] at h, fun _ _ _ _ _ r h => by simp [downpourlaw14_RippleOnce.l2] at h, fun _ _ _ _ r h => by simp [downpourlaw14_RippleOnce.l3] at h⟩
  | k + 1 => by
    obtain ⟨ih0, ih1, ih2, ih3, ih4⟩ := downpourlaw14_RippleOnce.mono_l k
    refine ⟨?_, ?_, ?_, ?_, ?_⟩
    · intro y0 y1 y2 y3 y4 y5 y6 y7 y8
      unfold downpourlaw14_RippleOnce.l0
      repeat' first
      | (with_reducible exact ih0 _ _ _ _ _ _ _ _ _)
      | (with_reducible exact ih1 _ _ _ _)
      | (with_reducible exact ih2 _ _ _ _ _ _ _ _)
      | (with_reducible exact ih3 _ _ _ _ _)
      | (with_reducible exact ih4 _ _ _ _)
      | (with_reducible exact downpourref14_Same.mono _ _ _)
      | (with_reducible exact LeO.refl _)
      | (with_reducible exact LeO.none _)
      | (with_reducible refine LeO.ite ?_ ?_)
      | (with_reducible refine LeO.bind ?_ (fun _ => ?_))
      | exact ih0 _ _ _ _ _ _ _ _ _
      | exact ih1 _ _ _ _
      | exact ih2 _ _ _ _ _ _ _ _
      | exact ih3 _ _ _ _ _
      | exact ih4 _ _ _ _
      | exact downpourref14_Same.mono _ _ _
      | exact LeO.none _
      | refine LeO.ite ?_ ?_
      | refine LeO.bind ?_ (fun _ => ?_)
    · intro y0 y1 y2 y3
      unfold downpourlaw14_RippleOnce.j1
      repeat' first
      | (with_reducible exact ih0 _ _ _ _ _ _ _ _ _)
      | (with_reducible exact ih1 _ _ _ _)
      | (with_reducible exact ih2 _ _ _ _ _ _ _ _)
      | (with_reducible exact ih3 _ _ _ _ _)
      | (with_reducible exact ih4 _ _ _ _)
      | (with_reducible exact downpourref14_Same.mono _ _ _)
      | (with_reducible exact LeO.refl _)
      | (with_reducible exact LeO.none _)
      | (with_reducible refine LeO.ite ?_ ?_)
      | (with_reducible refine LeO.bind ?_ (fun _ => ?_))
      | exact ih0 _ _ _ _ _ _ _ _ _
      | exact ih1 _ _ _ _
      | exact ih2 _ _ _ _ _ _ _ _
      | exact ih3 _ _ _ _ _
      | exact ih4 _ _ _ _
      | exact downpourref14_Same.mono _ _ _
      | exact LeO.none _
      | refine LeO.ite ?_ ?_
      | refine LeO.bind ?_ (fun _ => ?_)
    · intro y0 y1 y2 y3 y4 y5 y6 y7
      unfold downpourlaw14_RippleOnce.l1
      repeat' first
      | (with_reducible exact ih0 _ _ _ _ _ _ _ _ _)
      | (with_reducible exact ih1 _ _ _ _)
      | (with_reducible exact ih2 _ _ _ _ _ _ _ _)
      | (with_reducible exact ih3 _ _ _ _ _)
      | (with_reducible exact ih4 _ _ _ _)
      | (with_reducible exact downpourref14_Same.mono _ _ _)
      | (with_reducible exact LeO.refl _)
      | (with_reducible exact LeO.none _)
      | (with_reducible refine LeO.ite ?_ ?_)
      | (with_reducible refine LeO.bind ?_ (fun _ => ?_))
      | exact ih0 _ _ _ _ _ _ _ _ _
      | exact ih1 _ _ _ _
      | exact ih2 _ _ _ _ _ _ _ _
      | exact ih3 _ _ _ _ _
      | exact ih4 _ _ _ _
      | exact downpourref14_Same.mono _ _ _
      | exact LeO.none _
      | refine LeO.ite ?_ ?_
      | refine LeO.bind ?_ (fun _ => ?_)
    · intro y0 y1 y2 y3 y4
      unfold downpourlaw14_RippleOnce.l2
      repeat' first
      | (with_reducible exact ih0 _ _ _ _ _ _ _ _ _)
      | (with_reducible exact ih1 _ _ _ _)
      | (with_reducible exact ih2 _ _ _ _ _ _ _ _)
      | (with_reducible exact ih3 _ _ _ _ _)
      | (with_reducible exact ih4 _ _ _ _)
      | (with_reducible exact downpourref14_Same.mono _ _ _)
      | (with_reducible exact LeO.refl _)
      | (with_reducible exact LeO.none _)
      | (with_reducible refine LeO.ite ?_ ?_)
      | (with_reducible refine LeO.bind ?_ (fun _ => ?_))
      | exact ih0 _ _ _ _ _ _ _ _ _
      | exact ih1 _ _ _ _
      | exact ih2 _ _ _ _ _ _ _ _
      | exact ih3 _ _ _ _ _
      | exact ih4 _ _ _ _
      | exact downpourref14_Same.mono _ _ _
      | exact LeO.none _
      | refine LeO.ite ?_ ?_
      | refine LeO.bind ?_ (fun _ => ?_)
    · intro y0 y1 y2 y3
      unfold downpourlaw14_RippleOnce.l3
      repeat' first
      | (with_reducible exact ih0 _ _ _ _ _ _ _ _ _)
      | (with_reducible exact ih1 _ _ _ _)
      | (with_reducible exact ih2 _ _ _ _ _ _ _ _)
      | (with_reducible exact ih3 _ _ _ _ _)
      | (with_reducible exact ih4 _ _ _ _)
      | (with_reducible exact downpourref14_Same.mono _ _ _)
      | (with_reducible exact LeO.refl _)
      | (with_reducible exact LeO.none _)
      | (with_reducible refine LeO.ite ?_ ?_)
      | (with_reducible refine LeO.bind ?_ (fun _ => ?_))
      | exact ih0 _ _ _ _ _ _ _ _ _
      | exact ih1 _ _ _ _
      | exact ih2 _ _ _ _ _ _ _ _
      | exact ih3 _ _ _ _ _
      | exact ih4 _ _ _ _
      | exact downpourref14_Same.mono _ _ _
      | exact LeO.none _
      | refine LeO.ite ?_ ?_
      | refine LeO.bind ?_ (fun _ => ?_)
theorem downpourlaw14_RippleOnce.mono : ∀ a0 k, LeO (downpourlaw14_RippleOnce.f k a0) (downpourlaw14_RippleOnce.f (k + 1) a0) := by
  intro a0 k
  obtain ⟨ih0, ih1, ih2, ih3, ih4⟩ := downpourlaw14_RippleOnce.mono_l k
  unfold downpourlaw14_RippleOnce.f
  repeat' first
      | (with_reducible exact ih0 _ _ _ _ _ _ _ _ _)
      | (with_reducible exact ih1 _ _ _ _)
      | (with_reducible exact ih2 _ _ _ _ _ _ _ _)
      | (with_reducible exact ih3 _ _ _ _ _)
      | (with_reducible exact ih4 _ _ _ _)
      | (with_reducible exact downpourref14_Same.mono _ _ _)
      | (with_reducible exact LeO.refl _)
      | (with_reducible exact LeO.none _)
      | (with_reducible refine LeO.ite ?_ ?_)
      | (with_reducible refine LeO.bind ?_ (fun _ => ?_))
      | exact ih0 _ _ _ _ _ _ _ _ _
      | exact ih1 _ _ _ _
      | exact ih2 _ _ _ _ _ _ _ _
      | exact ih3 _ _ _ _ _
      | exact ih4 _ _ _ _
      | exact downpourref14_Same.mono _ _ _
      | exact LeO.none _
      | refine LeO.ite ?_ ?_
      | refine LeO.bind ?_ (fun _ => ?_)
def downpourlaw14_RippleOnce.T25 : Bool × List (List Nat × List Nat) := (true, [([], []), ([0], [0]), ([1], [1]), ([2], [2]), ([2], [2]), ([3, 4, 2], [2, 3, 4]), ([5, 2], [2, 5]), ([2], [2]), ([2], [2]), ([7, 8, 2], [2, 7, 8]), ([9, 2], [2, 9]), ([6, 10, 2, 2], [2, 6, 10]), ([2, 11], [2, 11])])
def downpourlaw14_RippleOnce.B25 : List Nat := [0, 1, 3, 7, 7, 31, 63, 7, 7, 391, 903, 2047, 4095]
theorem downpourlaw14_RippleOnce.tab25 : rtab .any (opsOf Try.f6 25) = downpourlaw14_RippleOnce.T25 := by kernel_rfl
theorem downpourlaw14_RippleOnce.bits25 : waitsOk downpourlaw14_RippleOnce.T25.2 downpourlaw14_RippleOnce.B25 = true := by kernel_rfl
set_option maxHeartbeats 8000000 in
set_option maxRecDepth 100000 in
theorem downpourlaw14_RippleOnce.calls (k : Nat) (A0 : Option Addr) (c0 : Nat) (l0 : List (S43)) (r : Bool) (w : World) (hr0 : Kd.C k43 w A0 l0.length l0) (hc0 : l0.length ≤ c0) (h : downpourlaw14_RippleOnce.f k l0 = some r) :
    Calls Try.prog 6 #[.slice A0 l0.length c0] w fun e w' => e = .returned (.bool r) ∧ Below w.heap.size w w' := by
  have hu43 := Try.underlying43
  have hu24 := Try.underlying24
  have HR0 := Aside0.mk hr0
  have HC0 := Aside0.mk hc0
  clear hr0 hc0
  have HB := Aside0.mk (Below.refl w.heap.size w)
  have H : (if 0 ≤ (mn (l0.length : Int) 80) then (if (mn (l0.length : Int) 80) ≤ (l0.length : Int) then ((some (l0.take ((mn (l0.length : Int) 80) : Int).toNat : List (S43))).bind fun y173 => ((ripple_Run.f y173).bind fun bt177 => (downpourlaw14_RippleOnce.l0 k y173 bt177.1 bt177.2.1 bt177.2.2 ([] : List (S24)) 0 y173 (y173.length : Int) 0))) else (none)) else (none)) = some r := h
  clear h
  obtain ⟨ji2, hji2⟩ : ∃ j_ : Int, (mn (l0.length : Int) 80) = j_ := ⟨_, rfl⟩
  replace H : (if 0 ≤ (ji2) then (if (ji2) ≤ (l0.length : Int) then ((some (l0.take ((ji2) : Int).toNat : List (S43))).bind fun y173 => ((ripple_Run.f y173).bind fun bt177 => (downpourlaw14_RippleOnce.l0 k y173 bt177.1 bt177.2.1 bt177.2.2 ([] : List (S24)) 0 y173 (y173.length : Int) 0))) else (none)) else (none)) = some r := by first | (rw [hji2] at H; exact H) | (simp only [hji2] at H ⊢; exact H)
  (try (have hji2h : ji2 ≤ 80 := by (rw [← hji2]; unfold mn; (repeat' split) <;> omega)))
  (try (have hji2g : ji2 ≤ 64 := by omega))
  (try (have hji2l : 0 ≤ ji2 := by (rw [← hji2]; unfold mn; (repeat' split) <;> omega)))
  (try (have hji2m : 0 ≤ ji2 := by omega))
  have hji2_ : (if 80 < (l0.length : Int) then 80 else (l0.length : Int)) = ji2 := hji2
  by_cases c3 : 0 ≤ (ji2)
  · rw [if_pos c3] at H
    have c3b0 := eq_true c3
    have c3b1 : decide (0 ≤ (ji2)) = true := decide_eq_true c3
    clear c3
    by_cases c4 : (ji2) ≤ (l0.length : Int)
    · rw [if_pos c4] at H
      have c4b0 := eq_true c4
      have c4b1 : decide ((ji2) ≤ (l0.length : Int)) = true := decide_eq_true c4
      clear c4
      obtain ⟨y173, hy173⟩ : ∃ y_ : List (S43), y_ = (l0.take ((ji2) : Int).toNat) := ⟨_, rfl⟩
      replace H : ((ripple_Run.f y173).bind fun bt177 => (downpourlaw14_RippleOnce.l0 k y173 bt177.1 bt177.2.1 bt177.2.2 ([] : List (S24)) 0 y173 (y173.length : Int) 0)) = some r := by first | (rw [hy173]; with_reducible exact H) | (have H2_ := (Option.bind_some _ _).symm.trans H; rw [hy173]; with_reducible exact H2_) | (have H2_ := (Option.bind_some _ _).symm.trans H; with_reducible exact H2_) | with_reducible exact H | (rw [hy173]; exact H) | exact H
      have Ny173 := Aside0.mk hy173
      clear hy173
      replace H := Option.bind_eq_some_iff.mp H
      obtain ⟨⟨t177, t178, t179⟩, A50, H⟩ := H
      replace H : (downpourlaw14_RippleOnce.l0 k y173 t177 t178 t179 ([] : List (S24)) 0 y173 (y173.length : Int) 0) = some r := H
      have A5 := Aside0.mk A50
      clear A50
      have H' := Aside0.mk H
      clear H
      have q6 : ((ji2) : Int) ≤ ((l0.length : Int) : Int) := of_decide_eq_true (by first | (with_reducible assumption) | assumption)
      obtain ⟨i06, hi06, _, hsz6, _⟩ := info_parts info43
      have hroom6 : l0.length ≤ c0 := HC0.out
      have hC6 : Kd.C k43 _ A0 l0.length l0 := HR0.out
      have hcut6 := cut_to (P := Try.prog) 35 43 .i64 Try.underlying35 hi06 A0 l0.length c0 (ji2) (of_decide_eq_true (by first | (with_reducible assumption) | assumption)) q6 hroom6
      have hr6 := Kd.C_take (m := ((ji2) : Int).toNat) hC6 (by omega)
      have hy6 : y173.length = ((ji2) : Int).toNat := (by rw [Ny173.out, List.length_take]; omega)
      rw [← Ny173.out] at hr6
      rw [← hy6] at hcut6
      have HR176 := Aside0.mk hr6
      have HC176 := Aside0.mk (show y173.length ≤ c0 from by omega)
      clear hr6 hC6 hroom6 hi06 hsz6
      have KY6 := Aside0.mk hy6
      clear hy6
      replace q6 := eq_true q6
      go_enter Try.func6, Try.ntmps6
      go_wp2_with (first | ((with_reducible refine gate_callee (f := 15) rfl ?_); refine goesL_ (some 29) rfl rfl Try.func15 (by kernel_rfl) rfl #[.slice A0 y173.length c0] rfl (by (try simp only [List.map_toArray, List.map_cons, List.map_nil]); first | done | rfl | (simp only [List.length_drop, List.length_take]; rfl)) ?_; (with_reducible refine (ripple_Run.calls _ _ y173 t177 t178 t179 _ ?side1 ?side2 A5.out).mono ?_); (case side1 => repeat (first | exact HR176.out | (with_reducible refine Kd.C_alloc ?_ _) | (with_reducible refine Kd.C_drewN ?_ _) | (with_reducible refine Kd.C_drew ?_))); (case side2 => exact HC176.out); rintro e w7 ⟨v180, v182, rfl, ho0, ho1, hb⟩; refine ⟨_, rfl, ?_⟩; have n0_ := Aside0.mk (Kd.R_lower ho0 (below_size (by repeat (first | (with_reducible first | exact HB.out | apply below_alloc | apply pw_below_drewN | apply below_drew1) | exact HB.out)))); have n1_ := Aside0.mk (Kd.R_lower ho1 (below_size (by repeat (first | (with_reducible first | exact HB.out | apply below_alloc | apply pw_below_drewN | apply below_drew1) | exact HB.out)))); have n2_ := Aside0.mk (below_step (by repeat (first | (with_reducible first | exact HB.out | apply below_alloc | apply pw_below_drewN | apply below_drew1) | exact HB.out)) hb); clear HB; have HO181 := n0_; have HO183 := n1_; have HB := n2_; clear n0_ n1_ n2_; (try clear hb); (try clear hb2); (try clear hk); (try clear hi); (try clear ho0); (try clear ho1)))
      go_loopg [6, 7, 35] k (fun kq v6 v7 v35 w' => ∃ (x6_1 : List (S24)) (x7_1 : Int) (x35_1 : Int), v7 = .int .i64 x7_1 ∧ v35 = .int .i64 x35_1 ∧ Aside0 (downpourlaw14_RippleOnce.l0 kq y173 t177 t178 t179 x6_1 x7_1 y173 (y173.length : Int) x35_1 = some r) ∧ Aside0 (kq ≤ k) ∧ Aside0 (Kd.R k24 24 w' w.heap.size (fun k_ => some k_ ≠ (v182 : Value).ownBlock ∧ some k_ ≠ (v6 : Value).ownBlock) v180 t177) ∧ Aside0 (Kd.R k24 24 w' w.heap.size (fun k_ => some k_ ≠ (v180 : Value).ownBlock ∧ some k_ ≠ (v6 : Value).ownBlock) v182 t178) ∧ Aside0 (Kd.R k24 24 w' w.heap.size (fun k_ => some k_ ≠ (v180 : Value).ownBlock ∧ some k_ ≠ (v182 : Value).ownBlock) v6 x6_1) ∧ Aside0 (Below w.heap.size w w'))
      case atStart => exact ⟨(([] : List (S24))), (0), (0), (by first | rfl | (simp; done) | (simp [*]; done)), (by first | rfl | (simp; done) | (simp [*]; done)), H', ⟨Nat.le_refl _⟩, ⟨by (with_reducible repeat (first | apply Kd.R_alloc | apply Kd.R_drewN | apply Kd.R_drew)); exact Kd.R_mono HO181.out (fun _ hk => ⟨hk, (by simp [Value.ownBlock])⟩)⟩, ⟨by (with_reducible repeat (first | apply Kd.R_alloc | apply Kd.R_drewN | apply Kd.R_drew)); exact Kd.R_mono HO183.out (fun _ hk => ⟨hk, (by simp [Value.ownBlock])⟩)⟩, ⟨by first | exact Kd.R_nil _ _ _ _ _ | exact Kd.N_nil _ _ _ _ _ | exact Kd.V_nil _ _ _ _ _ | exact Kd.Q_nil _ _ _ _ _ | exact Kd.S_nil _ _ _ _ _⟩, ⟨by repeat (first | (with_reducible first | exact HB.out | apply below_alloc | apply pw_below_drewN | apply below_drew1) | exact HB.out)⟩⟩
      case round =>
        clear H'
        try clear c1
        try clear p2
        try clear c3
        try clear c3b0
        try clear c3b1
        try clear c4
        try clear c4b0
        try clear c4b1
        try clear c6
        try clear q6
        try clear q6
        obtain ⟨x6_1, x7_1, x35_1, rfl, rfl, HA, HK1, HO_3, HO_4, HO_6, HB⟩ := hrel
        cases gk with
        | zero => exact absurd HA.out (by simp [downpourlaw14_RippleOnce.l0])
        | succ k1 =>
          have H := HA.out
          clear HA
          simp only [downpourlaw14_RippleOnce.l0] at H
          by_cases c8 : x35_1 < (y173.length : Int)
          · rw [if_pos c8] at H
            have c8b0 : decide (x35_1 < (y173.length : Int)) = true := decide_eq_true c8
            clear c8
            by_cases c9 : 0 ≤ x35_1
            · rw [if_pos c9] at H
              have c9b0 : decide (0 ≤ x35_1) = true := decide_eq_true c9
              clear c9
              by_cases c10 : x35_1 < (y173.length : Int)
              · rw [if_pos c10] at H
                have c10b0 : decide (x35_1 < (y173.length : Int)) = true := decide_eq_true c10
                clear c10
                obtain ⟨bq11, hbq11⟩ : ∃ b_ : Bool, b_ = ((rd_T43 y173 x35_1).f0) := ⟨_, rfl⟩
                replace H : (if bq11 = true then (downpourlaw14_RippleOnce.l0 k1 y173 t177 t178 t179 x6_1 (wrap64 (x7_1 + 1)) y173 (y173.length : Int) (wrap64 (x35_1 + 1))) else (if x6_1.length < 8796093022208 then (downpourlaw14_RippleOnce.l0 k1 y173 t177 t178 t179 (x6_1 ++ [(⟨(rd_T43 y173 x35_1).f1.f0, (rd_T43 y173 x35_1).f1.f1⟩ : S24)]) x7_1 y173 (y173.length : Int) (wrap64 (x35_1 + 1))) else (none))) = some r := by rw [← hbq11] at H; exact H
                have Nbq11 := Aside0.mk hbq11
                clear hbq11
                by_cases c12 : bq11 = true
                · subst c12
                  have H1 : (downpourlaw14_RippleOnce.l0 k1 y173 t177 t178 t179 x6_1 (wrap64 (x7_1 + 1)) y173 (y173.length : Int) (wrap64 (x35_1 + 1))) = some r := by rw [if_pos rfl] at H; exact H
                  clear H
                  have H := H1
                  clear H1
                  have H' := Aside0.mk H
                  clear H
                  have p184 : 0 ≤ (x35_1 : Int) := of_decide_eq_true (by first | (with_reducible assumption) | assumption)
                  have q184 : x35_1 < (y173.length : Int) := of_decide_eq_true (by first | (with_reducible assumption) | assumption)
                  obtain ⟨ad184, e184, hx184_0, hx184_1, hx184_2⟩ := at_T43 HR176.out x35_1 p184 q184
                  (try rw [← Nbq11.out] at hx184_0)
                  cases e184
                  replace hx184_0 := (HB.out.cell (World.block_lt_of_cell? w _ hx184_0)).trans hx184_0
                  replace hx184_1 := (HB.out.cell (World.block_lt_of_cell? w _ hx184_1)).trans hx184_1
                  replace hx184_2 := (HB.out.cell (World.block_lt_of_cell? w _ hx184_2)).trans hx184_2
                  replace p184 := eq_true p184
                  replace q184 := eq_true q184
                  go_wp2_with (first | ((with_reducible refine gate_dst (N := 9) rfl ?_); (try (refine gate_guard (by rfl) ?_; dsimp only)); refine box_event ?hg (N := 9) ?hd (cs := #[.bool false, .int .i64 0, .int .u64 0]) (t := 43) ?hr ?_; (case hd => rfl); (case hg => rfl); (case hr => first | (go_simp; done) | (go_simp; rfl)); intro gb185 hg w13 hbox hb; have n0_ := Aside0.mk (Kd.R_below (by (with_reducible repeat (first | apply Kd.R_alloc | apply Kd.R_drewN | apply Kd.R_drew)); exact HO_3.out) hb); have n1_ := Aside0.mk (Kd.R_below (by (with_reducible repeat (first | apply Kd.R_alloc | apply Kd.R_drewN | apply Kd.R_drew)); exact HO_4.out) hb); have n2_ := Aside0.mk (Kd.R_below (by (with_reducible repeat (first | apply Kd.R_alloc | apply Kd.R_drewN | apply Kd.R_drew)); exact HO_6.out) hb); have n3_ := Aside0.mk (below_step (by repeat (first | (with_reducible first | exact HB.out | apply below_alloc | apply pw_below_drewN | apply below_drew1) | exact HB.out)) hb); have n4_ := Aside0.mk (hbox); have n5_ := Aside0.mk ((by rw [hg]; exact (below_size (by repeat (first | (with_reducible first | exact HB.out | apply below_alloc | apply pw_below_drewN | apply below_drew1) | exact HB.out))) : w.heap.size ≤ gb185)); have n6_ := Aside0.mk ((by rw [hg]; exact (below_size (by repeat (first | (with_reducible first | exact HB.out | apply below_alloc | apply pw_below_drewN | apply below_drew1) | exact HB.out))) : w.heap.size ≤ gb185)); clear HO_3; clear HO_4; clear HO_6; clear HB; have HO_3 := n0_; have HO_4 := n1_; have HO_6 := n2_; have HB := n3_; have BK185 := n4_; have GW185 := n5_; have GE185 := n6_; clear n0_ n1_ n2_ n3_ n4_ n5_ n6_; clear hb hbox hg; have hcz14_0 : w13.cell? ⟨gb185, 0, none⟩ = some (.bool false) := (blk_cell BK185.out 0).trans rfl; have hcz14_1 : w13.cell? ⟨gb185, 1, none⟩ = some (.int .i64 0) := (blk_cell BK185.out 1).trans rfl; have hcz14_2 : w13.cell? ⟨gb185, 2, none⟩ = some (.int .u64 0) := (blk_cell BK185.out 2).trans rfl; have hfz14_0 := blk_frozen BK185.out 0; have hfz14_1 := blk_frozen BK185.out 1; have hfz14_2 := blk_frozen BK185.out 2))
                  go_roundg k1
                  case measure => have := HK1.out; omega
                  case rel => exact ⟨(x6_1), (wrap64 (x7_1 + 1)), (wrap64 (x35_1 + 1)), (by first | rfl | (simp; done) | (simp [*]; done)), (by first | rfl | (simp; done) | (simp [*]; done)), H', ⟨by have := HK1.out; omega⟩, ⟨by (with_reducible repeat (first | apply Kd.R_alloc | apply Kd.R_drewN | apply Kd.R_drew)); exact Kd.R_mono (Kd.R_far (p := ⟨gb185, 2, none⟩) (Kd.R_far (p := ⟨gb185, 1, none⟩) (Kd.R_far (p := ⟨gb185, 0, none⟩) (Kd.R_types HO_3.out BK185.out (by decide)) (fun _ hk => hk.2) (.bool true)) (fun _ hk => hk.2) (.int .i64 ((rd_T43 y173 x35_1).f1.f0))) (fun _ hk => hk.2) (.int .u64 ((rd_T43 y173 x35_1).f1.f1))) (fun _ hk => ⟨hk.1.1, hk.1.2⟩)⟩, ⟨by (with_reducible repeat (first | apply Kd.R_alloc | apply Kd.R_drewN | apply Kd.R_drew)); exact Kd.R_mono (Kd.R_far (p := ⟨gb185, 2, none⟩) (Kd.R_far (p := ⟨gb185, 1, none⟩) (Kd.R_far (p := ⟨gb185, 0, none⟩) (Kd.R_types HO_4.out BK185.out (by decide)) (fun _ hk => hk.2) (.bool true)) (fun _ hk => hk.2) (.int .i64 ((rd_T43 y173 x35_1).f1.f0))) (fun _ hk => hk.2) (.int .u64 ((rd_T43 y173 x35_1).f1.f1))) (fun _ hk => ⟨hk.1.1, hk.1.2⟩)⟩, ⟨by (with_reducible repeat (first | apply Kd.R_alloc | apply Kd.R_drewN | apply Kd.R_drew)); exact Kd.R_mono (Kd.R_far (p := ⟨gb185, 2, none⟩) (Kd.R_far (p := ⟨gb185, 1, none⟩) (Kd.R_far (p := ⟨gb185, 0, none⟩) (Kd.R_types HO_6.out BK185.out (by decide)) (fun _ hk => hk.2) (.bool true)) (fun _ hk => hk.2) (.int .i64 ((rd_T43 y173 x35_1).f1.f0))) (fun _ hk => hk.2) (.int .u64 ((rd_T43 y173 x35_1).f1.f1))) (fun _ hk => ⟨hk.1.1, hk.1.2⟩)⟩, ⟨by repeat (first | (with_reducible first | exact HB.out | apply below_alloc | apply pw_below_drewN | apply below_drew1 | refine below_set ?_ GE185.out) | exact HB.out)⟩⟩
                · replace c12 := Bool.eq_false_iff.mpr c12
                  subst c12
                  have H1 : (if x6_1.length < 8796093022208 then (downpourlaw14_RippleOnce.l0 k1 y173 t177 t178 t179 (x6_1 ++ [(⟨(rd_T43 y173 x35_1).f1.f0, (rd_T43 y173 x35_1).f1.f1⟩ : S24)]) x7_1 y173 (y173.length : Int) (wrap64 (x35_1 + 1))) else (none)) = some r := by rw [if_neg (show ¬ (false = true) by decide)] at H; exact H
                  clear H
                  have H := H1
                  clear H1
                  by_cases c15 : x6_1.length < 8796093022208
                  · rw [if_pos c15] at H
                    have LMc15 := Aside0.mk c15
                    clear c15
                    obtain ⟨y186, hy186⟩ : ∃ y_ : List (S24), y_ = (x6_1 ++ [(⟨(rd_T43 y173 x35_1).f1.f0, (rd_T43 y173 x35_1).f1.f1⟩ : S24)]) := ⟨_, rfl⟩
                    replace H : (downpourlaw14_RippleOnce.l0 k1 y173 t177 t178 t179 y186 x7_1 y173 (y173.length : Int) (wrap64 (x35_1 + 1))) = some r := by first | (rw [hy186]; with_reducible exact H) | (have H2_ := (Option.bind_some _ _).symm.trans H; rw [hy186]; with_reducible exact H2_) | (have H2_ := (Option.bind_some _ _).symm.trans H; with_reducible exact H2_) | with_reducible exact H | (rw [hy186]; exact H) | exact H
                    have Ny186 := Aside0.mk hy186
                    clear hy186
                    have H' := Aside0.mk H
                    clear H
                    have p184 : 0 ≤ (x35_1 : Int) := of_decide_eq_true (by first | (with_reducible assumption) | assumption)
                    have q184 : x35_1 < (y173.length : Int) := of_decide_eq_true (by first | (with_reducible assumption) | assumption)
                    obtain ⟨ad184, e184, hx184_0, hx184_1, hx184_2⟩ := at_T43 HR176.out x35_1 p184 q184
                    (try rw [← Nbq11.out] at hx184_0)
                    cases e184
                    replace hx184_0 := (HB.out.cell (World.block_lt_of_cell? w _ hx184_0)).trans hx184_0
                    replace hx184_1 := (HB.out.cell (World.block_lt_of_cell? w _ hx184_1)).trans hx184_1
                    replace hx184_2 := (HB.out.cell (World.block_lt_of_cell? w _ hx184_2)).trans hx184_2
                    replace p184 := eq_true p184
                    replace q184 := eq_true q184
                    go_wp2_with (first | ((with_reducible refine gate_dst (N := 9) rfl ?_); (try (refine gate_guard (by rfl) ?_; dsimp only)); refine box_event ?hg (N := 9) ?hd (cs := #[.bool false, .int .i64 0, .int .u64 0]) (t := 43) ?hr ?_; (case hd => rfl); (case hg => rfl); (case hr => first | (go_simp; done) | (go_simp; rfl)); intro gb185 hg w16 hbox hb; have n0_ := Aside0.mk (Kd.R_below (by (with_reducible repeat (first | apply Kd.R_alloc | apply Kd.R_drewN | apply Kd.R_drew)); exact HO_3.out) hb); have n1_ := Aside0.mk (Kd.R_below (by (with_reducible repeat (first | apply Kd.R_alloc | apply Kd.R_drewN | apply Kd.R_drew)); exact HO_4.out) hb); have n2_ := Aside0.mk (Kd.R_below (by (with_reducible repeat (first | apply Kd.R_alloc | apply Kd.R_drewN | apply Kd.R_drew)); exact HO_6.out) hb); have n3_ := Aside0.mk (below_step (by repeat (first | (with_reducible first | exact HB.out | apply below_alloc | apply pw_below_drewN | apply below_drew1) | exact HB.out)) hb); have n4_ := Aside0.mk (hbox); have n5_ := Aside0.mk ((by rw [hg]; exact (below_size (by repeat (first | (with_reducible first | exact HB.out | apply below_alloc | apply pw_below_drewN | apply below_drew1) | exact HB.out))) : w.heap.size ≤ gb185)); have n6_ := Aside0.mk ((by rw [hg]; exact (below_size (by repeat (first | (with_reducible first | exact HB.out | apply below_alloc | apply pw_below_drewN | apply below_drew1) | exact HB.out))) : w.heap.size ≤ gb185)); clear HO_3; clear HO_4; clear HO_6; clear HB; have HO_3 := n0_; have HO_4 := n1_; have HO_6 := n2_; have HB := n3_; have BK185 := n4_; have GW185 := n5_; have GE185 := n6_; clear n0_ n1_ n2_ n3_ n4_ n5_ n6_; clear hb hbox hg; have hcz17_0 : w16.cell? ⟨gb185, 0, none⟩ = some (.bool false) := (blk_cell BK185.out 0).trans rfl; have hcz17_1 : w16.cell? ⟨gb185, 1, none⟩ = some (.int .i64 0) := (blk_cell BK185.out 1).trans rfl; have hcz17_2 : w16.cell? ⟨gb185, 2, none⟩ = some (.int .u64 0) := (blk_cell BK185.out 2).trans rfl; have hfz17_0 := blk_frozen BK185.out 0; have hfz17_1 := blk_frozen BK185.out 1; have hfz17_2 := blk_frozen BK185.out 2) | ((with_reducible refine gate_builtin (b := .append) (xs := #[.tmp 43, .tmp 46]) rfl ?_); (try (refine gate_guard (by rfl) ?_; dsimp only)); at_builtin; refine Kd.R_append k24 (w0 := w) w.heap.size rfl (.tmp 43) (.tmp 46) 25 24 (.agg #[(.int .i64 0), (.int .u64 0)]) 16 rfl Try.underlying25 info24 rfl (by decide) (by omega) u6 x6_1 (⟨(rd_T43 y173 x35_1).f1.f0, (rd_T43 y173 x35_1).f1.f1⟩ : S24) [.int .i64 ((rd_T43 y173 x35_1).f1.f0), .int .u64 ((rd_T43 y173 x35_1).f1.f1)] (fun k_ => some k_ ≠ (v180 : Value).ownBlock ∧ some k_ ≠ (v182 : Value).ownBlock) (fun _ => False) rfl (by first | (go_simp; done) | (go_simp; rfl)) ?aP (fun _ hk => hk.elim) ?aF ?aO ?aB ?aS ?aL ?_; (case aP => exact k24_mkM _ _ _ (⟨(rd_T43 y173 x35_1).f1.f0, (rd_T43 y173 x35_1).f1.f1⟩ : S24)); (case aB => exact (by repeat (first | (with_reducible first | exact HB.out | apply below_alloc | apply pw_below_drewN | apply below_drew1 | refine below_set ?_ GE185.out) | exact HB.out))); (case aF => exact (fun k_ hk => ⟨Kd.fresh' (Kd.R_lt (by (with_reducible repeat (first | apply Kd.R_alloc | apply Kd.R_drewN | apply Kd.R_drew)); exact (Kd.R_mono (Kd.R_far (p := ⟨gb185, 2, none⟩) (Kd.R_far (p := ⟨gb185, 1, none⟩) (Kd.R_far (p := ⟨gb185, 0, none⟩) (Kd.R_types HO_3.out BK185.out (by decide)) (fun _ hk => hk.2) (.bool false)) (fun _ hk => hk.2) (.int .i64 ((rd_T43 y173 x35_1).f1.f0))) (fun _ hk => hk.2) (.int .u64 ((rd_T43 y173 x35_1).f1.f1))) (fun _ h_ => h_.1)))) k_ hk, Kd.fresh' (Kd.R_lt (by (with_reducible repeat (first | apply Kd.R_alloc | apply Kd.R_drewN | apply Kd.R_drew)); exact (Kd.R_mono (Kd.R_far (p := ⟨gb185, 2, none⟩) (Kd.R_far (p := ⟨gb185, 1, none⟩) (Kd.R_far (p := ⟨gb185, 0, none⟩) (Kd.R_types HO_4.out BK185.out (by decide)) (fun _ hk => hk.2) (.bool false)) (fun _ hk => hk.2) (.int .i64 ((rd_T43 y173 x35_1).f1.f0))) (fun _ hk => hk.2) (.int .u64 ((rd_T43 y173 x35_1).f1.f1))) (fun _ h_ => h_.1)))) k_ hk⟩)); (case aO => exact (by (with_reducible repeat (first | apply Kd.R_alloc | apply Kd.R_drewN | apply Kd.R_drew)); exact Kd.R_mono (Kd.R_far (p := ⟨gb185, 2, none⟩) (Kd.R_far (p := ⟨gb185, 1, none⟩) (Kd.R_far (p := ⟨gb185, 0, none⟩) (Kd.R_types HO_6.out BK185.out (by decide)) (fun _ hk => hk.2) (.bool false)) (fun _ hk => hk.2) (.int .i64 ((rd_T43 y173 x35_1).f1.f0))) (fun _ hk => hk.2) (.int .u64 ((rd_T43 y173 x35_1).f1.f1))) (fun _ hk => ⟨hk.1.1, hk.1.2⟩))); (case aS => exact (below_size (by repeat (first | (with_reducible first | exact HB.out | apply below_alloc | apply pw_below_drewN | apply below_drew1 | refine below_set ?_ GE185.out) | exact HB.out)))); (case aL => have := LMc15.out; omega); intro v187 w18 ho hb hg hat; rw [← Ny186.out] at ho; have n0_ := Aside0.mk (Kd.R_after (ok := (fun k_ => some k_ ≠ (v182 : Value).ownBlock)) (by (with_reducible repeat (first | apply Kd.R_alloc | apply Kd.R_drewN | apply Kd.R_drew)); exact Kd.R_mono (Kd.R_far (p := ⟨gb185, 2, none⟩) (Kd.R_far (p := ⟨gb185, 1, none⟩) (Kd.R_far (p := ⟨gb185, 0, none⟩) (Kd.R_types HO_3.out BK185.out (by decide)) (fun _ hk => hk.2) (.bool false)) (fun _ hk => hk.2) (.int .i64 ((rd_T43 y173 x35_1).f1.f0))) (fun _ hk => hk.2) (.int .u64 ((rd_T43 y173 x35_1).f1.f1))) (fun _ hk => ⟨hk.1.1, hk.1.2⟩)) hg hat); have n1_ := Aside0.mk (Kd.R_after (ok := (fun k_ => some k_ ≠ (v180 : Value).ownBlock)) (by (with_reducible repeat (first | apply Kd.R_alloc | apply Kd.R_drewN | apply Kd.R_drew)); exact Kd.R_mono (Kd.R_far (p := ⟨gb185, 2, none⟩) (Kd.R_far (p := ⟨gb185, 1, none⟩) (Kd.R_far (p := ⟨gb185, 0, none⟩) (Kd.R_types HO_4.out BK185.out (by decide)) (fun _ hk => hk.2) (.bool false)) (fun _ hk => hk.2) (.int .i64 ((rd_T43 y173 x35_1).f1.f0))) (fun _ hk => hk.2) (.int .u64 ((rd_T43 y173 x35_1).f1.f1))) (fun _ hk => ⟨hk.1.1, hk.1.2⟩)) hg hat); have n2_ := Aside0.mk (blk_grown (g := gb185) (o := .cells #[.bool false, .int .i64 ((rd_T43 y173 x35_1).f1.f0), .int .u64 ((rd_T43 y173 x35_1).f1.f1)] 43 (0, 0)) (by (with_reducible repeat (first | refine blk_drewN ?_ _ | refine blk_drew ?_ | refine blk_alloc ?_ _)); refine blk_put (cs := #[.bool false, .int .i64 ((rd_T43 y173 x35_1).f1.f0), .int .u64 0]) ?_ 2 _ rfl; (with_reducible repeat (first | refine blk_drewN ?_ _ | refine blk_drew ?_ | refine blk_alloc ?_ _)); refine blk_put (cs := #[.bool false, .int .i64 0, .int .u64 0]) ?_ 1 _ rfl; (with_reducible repeat (first | refine blk_drewN ?_ _ | refine blk_drew ?_ | refine blk_alloc ?_ _)); refine blk_put (cs := #[.bool false, .int .i64 0, .int .u64 0]) ?_ 0 _ rfl; (with_reducible repeat (first | refine blk_drewN ?_ _ | refine blk_drew ?_ | refine blk_alloc ?_ _)); exact BK185.out) hg (Kd.R_ne HO_6.out BK185.out (by decide))); have n3_ := Aside0.mk (hb); have n4_ := Aside0.mk (ho); clear HO_3; clear HO_4; clear BK185; clear HB; clear HO_6; have HO_3 := n0_; have HO_4 := n1_; have BK185 := n2_; have HB := n3_; have HO188 := n4_; clear n0_ n1_ n2_ n3_ n4_; clear ho hb hg hat))
                    go_roundg k1
                    case measure => have := HK1.out; omega
                    case rel => exact ⟨(y186), (x7_1), (wrap64 (x35_1 + 1)), (by first | rfl | (simp; done) | (simp [*]; done)), (by first | rfl | (simp; done) | (simp [*]; done)), H', ⟨by have := HK1.out; omega⟩, ⟨by (with_reducible repeat (first | apply Kd.R_alloc | apply Kd.R_drewN | apply Kd.R_drew)); exact HO_3.out⟩, ⟨by (with_reducible repeat (first | apply Kd.R_alloc | apply Kd.R_drewN | apply Kd.R_drew)); exact HO_4.out⟩, ⟨by (with_reducible repeat (first | apply Kd.R_alloc | apply Kd.R_drewN | apply Kd.R_drew)); exact HO188.out⟩, ⟨by repeat (first | (with_reducible first | exact HB.out | apply below_alloc | apply pw_below_drewN | apply below_drew1 | refine below_set ?_ GE185.out) | exact HB.out)⟩⟩
                  · rw [if_neg c15] at H
                    exact absurd H (by simp)
              · rw [if_neg c10] at H
                exact absurd H (by simp)
            · rw [if_neg c9] at H
              exact absurd H (by simp)
          · rw [if_neg c8] at H
            have c8b0 : decide (x35_1 < (y173.length : Int)) = false := decide_eq_false c8
            clear c8
            obtain ⟨y189, hy189⟩ : ∃ y_ : List (S24), y_ = (([] : List (S24))) := ⟨_, rfl⟩
            replace H : (if y189.length + t177.length < 8796093022208 then ((some (y189 ++ t177 : List (S24))).bind fun y192 => (if y192.length + t178.length < 8796093022208 then ((some (y192 ++ t178 : List (S24))).bind fun y195 => (if (wrap64 ((t177.length : Int) + t179)) = x7_1 then (if (y195.length : Int) = (x6_1.length : Int) then ((ripple_Sorted.f y195).bind fun t198 => ((ripple_Sorted.f x6_1).bind fun t201 => ((downpourref14_Same.f k1 t198 t201).bind fun t204 => (if t204 = true then ((downpourlaw14_alive.f).bind fun t205 => (downpourlaw14_RippleOnce.j1 k1 y173 t177 x6_1 (!t205))) else (downpourlaw14_RippleOnce.j1 k1 y173 t177 x6_1 true))))) else (downpourlaw14_RippleOnce.j1 k1 y173 t177 x6_1 true)) else (downpourlaw14_RippleOnce.j1 k1 y173 t177 x6_1 true))) else (none))) else (none)) = some r := by first | (rw [hy189]; with_reducible exact H) | (have H2_ := (Option.bind_some _ _).symm.trans H; rw [hy189]; with_reducible exact H2_) | (have H2_ := (Option.bind_some _ _).symm.trans H; with_reducible exact H2_) | with_reducible exact H | (rw [hy189]; exact H) | exact H
            have Ny189 := Aside0.mk hy189
            clear hy189
            by_cases c19 : y189.length + t177.length < 8796093022208
            · rw [if_pos c19] at H
              have LMc19 := Aside0.mk c19
              clear c19
              obtain ⟨y192, hy192⟩ : ∃ y_ : List (S24), y_ = (y189 ++ t177) := ⟨_, rfl⟩
              replace H : (if y192.length + t178.length < 8796093022208 then ((some (y192 ++ t178 : List (S24))).bind fun y195 => (if (wrap64 ((t177.length : Int) + t179)) = x7_1 then (if (y195.length : Int) = (x6_1.length : Int) then ((ripple_Sorted.f y195).bind fun t198 => ((ripple_Sorted.f x6_1).bind fun t201 => ((downpourref14_Same.f k1 t198 t201).bind fun t204 => (if t204 = true then ((downpourlaw14_alive.f).bind fun t205 => (downpourlaw14_RippleOnce.j1 k1 y173 t177 x6_1 (!t205))) else (downpourlaw14_RippleOnce.j1 k1 y173 t177 x6_1 true))))) else (downpourlaw14_RippleOnce.j1 k1 y173 t177 x6_1 true)) else (downpourlaw14_RippleOnce.j1 k1 y173 t177 x6_1 true))) else (none)) = some r := by first | (rw [hy192]; with_reducible exact H) | (have H2_ := (Option.bind_some _ _).symm.trans H; rw [hy192]; with_reducible exact H2_) | (have H2_ := (Option.bind_some _ _).symm.trans H; with_reducible exact H2_) | with_reducible exact H | (rw [hy192]; exact H) | exact H
              have Ny192 := Aside0.mk hy192
              clear hy192
              by_cases c20 : y192.length + t178.length < 8796093022208
              · rw [if_pos c20] at H
                have LMc20 := Aside0.mk c20
                clear c20
                obtain ⟨y195, hy195⟩ : ∃ y_ : List (S24), y_ = (y192 ++ t178) := ⟨_, rfl⟩
                replace H : (if (wrap64 ((t177.length : Int) + t179)) = x7_1 then (if (y195.length : Int) = (x6_1.length : Int) then ((ripple_Sorted.f y195).bind fun t198 => ((ripple_Sorted.f x6_1).bind fun t201 => ((downpourref14_Same.f k1 t198 t201).bind fun t204 => (if t204 = true then ((downpourlaw14_alive.f).bind fun t205 => (downpourlaw14_RippleOnce.j1 k1 y173 t177 x6_1 (!t205))) else (downpourlaw14_RippleOnce.j1 k1 y173 t177 x6_1 true))))) else (downpourlaw14_RippleOnce.j1 k1 y173 t177 x6_1 true)) else (downpourlaw14_RippleOnce.j1 k1 y173 t177 x6_1 true)) = some r := by first | (rw [hy195]; with_reducible exact H) | (have H2_ := (Option.bind_some _ _).symm.trans H; rw [hy195]; with_reducible exact H2_) | (have H2_ := (Option.bind_some _ _).symm.trans H; with_reducible exact H2_) | with_reducible exact H | (rw [hy195]; exact H) | exact H
                have Ny195 := Aside0.mk hy195
                clear hy195
                have HC21 := Aside0.mk H
                clear H
                go_upto_region 13 with (first | ((with_reducible refine gate_dst (N := 49) rfl ?_); (try (refine gate_guard (by rfl) ?_; dsimp only)); refine Kd.R_lit k24 _ 24 ?hg (N := 49) ?hd (xs := ([] : List (S24))) (inner := []) (ok := fun _ => True) (okp := fun _ => True) ?hr ?hp (fun _ hk => hk) trivial (Below.refl _ _) (Nat.le_refl _) (by simp) ?_; (case hd => rfl); (case hg => rfl); (case hr => first | (go_simp; done) | (go_simp; rfl)); (case hp => exact (Reps.none _ _)); intro v190 w22 ho23 hb hg_ hnew_; clear hg_ hnew_; (first | rw [← Ny189.out] at ho23 | (simp only [Int.reduceToNat] at ho23; rw [← Ny189.out] at ho23)); have n0_ := Aside0.mk (Kd.R_elder' (by (with_reducible repeat (first | apply Kd.R_alloc | apply Kd.R_drewN | apply Kd.R_drew)); exact HO_3.out) (Kd.R_base ho23) hb); have n1_ := Aside0.mk (Kd.R_elder' (by (with_reducible repeat (first | apply Kd.R_alloc | apply Kd.R_drewN | apply Kd.R_drew)); exact HO_4.out) (Kd.R_base ho23) hb); have n2_ := Aside0.mk (Kd.R_elder' (by (with_reducible repeat (first | apply Kd.R_alloc | apply Kd.R_drewN | apply Kd.R_drew)); exact HO_6.out) (Kd.R_base ho23) hb); have n3_ := Aside0.mk (Kd.R_lower (Kd.R_new' (Kd.R_new' (Kd.R_new' ho23 (Kd.R_lt (by (with_reducible repeat (first | apply Kd.R_alloc | apply Kd.R_drewN | apply Kd.R_drew)); exact HO_3.out))) (Kd.R_lt (by (with_reducible repeat (first | apply Kd.R_alloc | apply Kd.R_drewN | apply Kd.R_drew)); exact HO_4.out))) (Kd.R_lt (by (with_reducible repeat (first | apply Kd.R_alloc | apply Kd.R_drewN | apply Kd.R_drew)); exact HO_6.out))) (below_size (by repeat (first | (with_reducible first | exact HB.out | apply below_alloc | apply pw_below_drewN | apply below_drew1) | exact HB.out)))); have n4_ := Aside0.mk (below_step (by repeat (first | (with_reducible first | exact HB.out | apply below_alloc | apply pw_below_drewN | apply below_drew1) | exact HB.out)) hb); clear HO_3; clear HO_4; clear HO_6; clear HB; have HO_3 := n0_; have HO_4 := n1_; have HO_6 := n2_; have HO191 := n3_; have HB := n4_; clear n0_ n1_ n2_ n3_ n4_; clear hb ho23; obtain ⟨Ao25, co25, eo25⟩ := Kd.R_slice HO_3.out; subst eo25) | ((with_reducible refine gate_builtin (b := .append) (xs := #[.tmp 49, .tmp 50]) rfl ?_); (try (refine gate_guard (by rfl) ?_; dsimp only)); at_builtin; refine Kd.R_append_rows k24 (w0 := w) w.heap.size rfl (.tmp 49) (.tmp 50) 25 24 (.agg #[(.int .i64 0), (.int .u64 0)]) 16 rfl Try.underlying25 info24 rfl (by decide) (by omega) v190 y189 t177 _ _ _ (fun k_ => some k_ ≠ (.slice Ao25 t177.length co25 : Value).ownBlock ∧ some k_ ≠ (v182 : Value).ownBlock ∧ some k_ ≠ (u6 : Value).ownBlock) (fun _ => False) rfl rfl ?aO ?aR (fun _ _ h => h) (fun _ h => h.elim) ?aF ?aB ?aS ?aL ?_; (case aR => repeat (first | exact (Kd.R_reads' HO_3.out).2.2 | (with_reducible refine Kd.C_alloc ?_ _) | (with_reducible refine Kd.C_drewN ?_ _) | (with_reducible refine Kd.C_drew ?_))); (case aB => exact (by repeat (first | (with_reducible first | exact HB.out | apply below_alloc | apply pw_below_drewN | apply below_drew1) | exact HB.out))); (case aF => exact (fun k_ hk => ⟨Kd.fresh' (Kd.R_lt (by (with_reducible repeat (first | apply Kd.R_alloc | apply Kd.R_drewN | apply Kd.R_drew)); exact HO_3.out)) k_ hk, Kd.fresh' (Kd.R_lt (by (with_reducible repeat (first | apply Kd.R_alloc | apply Kd.R_drewN | apply Kd.R_drew)); exact HO_4.out)) k_ hk, Kd.fresh' (Kd.R_lt (by (with_reducible repeat (first | apply Kd.R_alloc | apply Kd.R_drewN | apply Kd.R_drew)); exact HO_6.out)) k_ hk⟩)); (case aO => exact (by (with_reducible repeat (first | apply Kd.R_alloc | apply Kd.R_drewN | apply Kd.R_drew)); exact Kd.R_mono HO191.out (fun _ hk => ⟨hk.1.1.2, ⟨hk.1.2, hk.2⟩⟩))); (case aS => exact (below_size (by repeat (first | (with_reducible first | exact HB.out | apply below_alloc | apply pw_below_drewN | apply below_drew1) | exact HB.out)))); (case aL => have := LMc19.out; omega); intro v193 w24 ho hb hg hat; rw [← Ny192.out] at ho; have n0_ := Aside0.mk (Kd.R_after (ok := (fun k_ => some k_ ≠ (v182 : Value).ownBlock ∧ some k_ ≠ (u6 : Value).ownBlock)) (by (with_reducible repeat (first | apply Kd.R_alloc | apply Kd.R_drewN | apply Kd.R_drew)); exact HO_3.out) hg hat); have n1_ := Aside0.mk (Kd.R_after (ok := (fun k_ => some k_ ≠ (.slice Ao25 t177.length co25 : Value).ownBlock ∧ some k_ ≠ (u6 : Value).ownBlock)) (by (with_reducible repeat (first | apply Kd.R_alloc | apply Kd.R_drewN | apply Kd.R_drew)); exact HO_4.out) hg hat); have n2_ := Aside0.mk (Kd.R_after (ok := (fun k_ => some k_ ≠ (.slice Ao25 t177.length co25 : Value).ownBlock ∧ some k_ ≠ (v182 : Value).ownBlock)) (by (with_reducible repeat (first | apply Kd.R_alloc | apply Kd.R_drewN | apply Kd.R_drew)); exact HO_6.out) hg hat); have n3_ := Aside0.mk (hb); have n4_ := Aside0.mk (ho); clear HO_3; clear HO_4; clear HO_6; clear HB; clear HO191; have HO_3 := n0_; have HO_4 := n1_; have HO_6 := n2_; have HB := n3_; have HO194 := n4_; clear n0_ n1_ n2_ n3_ n4_; clear ho hb hg hat; obtain ⟨Ao27, co27, eo27⟩ := Kd.R_slice HO_4.out; subst eo27) | ((with_reducible refine gate_builtin (b := .append) (xs := #[.tmp 51, .tmp 52]) rfl ?_); (try (refine gate_guard (by rfl) ?_; dsimp only)); at_builtin; refine Kd.R_append_rows k24 (w0 := w) w.heap.size rfl (.tmp 51) (.tmp 52) 25 24 (.agg #[(.int .i64 0), (.int .u64 0)]) 16 rfl Try.underlying25 info24 rfl (by decide) (by omega) v193 y192 t178 _ _ _ (fun k_ => some k_ ≠ (.slice Ao25 t177.length co25 : Value).ownBlock ∧ some k_ ≠ (.slice Ao27 t178.length co27 : Value).ownBlock ∧ some k_ ≠ (u6 : Value).ownBlock) (fun _ => False) rfl rfl ?aO ?aR (fun _ _ h => h) (fun _ h => h.elim) ?aF ?aB ?aS ?aL ?_; (case aR => repeat (first | exact (Kd.R_reads' HO_4.out).2.2 | (with_reducible refine Kd.C_alloc ?_ _) | (with_reducible refine Kd.C_drewN ?_ _) | (with_reducible refine Kd.C_drew ?_))); (case aB => exact (by repeat (first | (with_reducible first | exact HB.out | apply below_alloc | apply pw_below_drewN | apply below_drew1) | exact HB.out))); (case aF => exact (fun k_ hk => ⟨Kd.fresh' (Kd.R_lt (by (with_reducible repeat (first | apply Kd.R_alloc | apply Kd.R_drewN | apply Kd.R_drew)); exact HO_3.out)) k_ hk, Kd.fresh' (Kd.R_lt (by (with_reducible repeat (first | apply Kd.R_alloc | apply Kd.R_drewN | apply Kd.R_drew)); exact HO_4.out)) k_ hk, Kd.fresh' (Kd.R_lt (by (with_reducible repeat (first | apply Kd.R_alloc | apply Kd.R_drewN | apply Kd.R_drew)); exact HO_6.out)) k_ hk⟩)); (case aO => exact (by (with_reducible repeat (first | apply Kd.R_alloc | apply Kd.R_drewN | apply Kd.R_drew)); exact HO194.out)); (case aS => exact (below_size (by repeat (first | (with_reducible first | exact HB.out | apply below_alloc | apply pw_below_drewN | apply below_drew1) | exact HB.out)))); (case aL => have := LMc20.out; omega); intro v196 w26 ho hb hg hat; rw [← Ny195.out] at ho; have n0_ := Aside0.mk (Kd.R_after (ok := (fun k_ => some k_ ≠ (.slice Ao27 t178.length co27 : Value).ownBlock ∧ some k_ ≠ (u6 : Value).ownBlock)) (by (with_reducible repeat (first | apply Kd.R_alloc | apply Kd.R_drewN | apply Kd.R_drew)); exact HO_3.out) hg hat); have n1_ := Aside0.mk (Kd.R_after (ok := (fun k_ => some k_ ≠ (.slice Ao25 t177.length co25 : Value).ownBlock ∧ some k_ ≠ (u6 : Value).ownBlock)) (by (with_reducible repeat (first | apply Kd.R_alloc | apply Kd.R_drewN | apply Kd.R_drew)); exact HO_4.out) hg hat); have n2_ := Aside0.mk (Kd.R_after (ok := (fun k_ => some k_ ≠ (.slice Ao25 t177.length co25 : Value).ownBlock ∧ some k_ ≠ (.slice Ao27 t178.length co27 : Value).ownBlock)) (by (with_reducible repeat (first | apply Kd.R_alloc | apply Kd.R_drewN | apply Kd.R_drew)); exact HO_6.out) hg hat); have n3_ := Aside0.mk (hb); have n4_ := Aside0.mk (ho); clear HO_3; clear HO_4; clear HO_6; clear HB; clear HO194; have HO_3 := n0_; have HO_4 := n1_; have HO_6 := n2_; have HB := n3_; have HO197 := n4_; clear n0_ n1_ n2_ n3_ n4_; clear ho hb hg hat))
                (try simp only [Act.put, List.setIfInBounds_toArray, List.set_cons_zero, List.set_cons_succ])
                go_cut [78] (fun v78 wc => ∃ (kq : Nat) (x78_20 : Bool), v78 = .bool x78_20 ∧ Aside0 (downpourlaw14_RippleOnce.j1 kq y173 t177 x6_1 x78_20 = some r) ∧ Aside0 (kq ≤ k1) ∧ Aside0 (Kd.R k24 24 wc w.heap.size (fun k_ => some k_ ≠ (u6 : Value).ownBlock) (.slice Ao25 t177.length co25) t177) ∧ Aside0 (Kd.R k24 24 wc w.heap.size (fun k_ => some k_ ≠ ((.slice Ao25 t177.length co25) : Value).ownBlock) u6 x6_1) ∧ Aside0 (Below w.heap.size w wc))
                case first =>
                  have H := HC21.out
                  clear HC21
                  by_cases c28 : (wrap64 ((t177.length : Int) + t179)) = x7_1
                  · rw [if_pos c28] at H
                    have c28b0 : ((wrap64 ((t177.length : Int) + t179)) == x7_1) = true := beq_iff_eq.mpr c28
                    have c28b1 : ((wrap64 ((t177.length : Int) + t179)) != x7_1) = false := bne_eq_false_iff_eq.mpr c28
                    clear c28
                    (first | rw [c28b0] | (simp only [i64_w, i32_w]; rw [c28b0]) | skip)
                    by_cases c29 : (y195.length : Int) = (x6_1.length : Int)
                    · rw [if_pos c29] at H
                      have c29b0 : ((y195.length : Int) == (x6_1.length : Int)) = true := beq_iff_eq.mpr c29
                      have c29b1 : ((y195.length : Int) != (x6_1.length : Int)) = false := bne_eq_false_iff_eq.mpr c29
                      have c29b2 : (y195.length == x6_1.length) = true := by first | simpa using c29 | (simp at c29 ⊢; omega)
                      clear c29
                      replace H := Option.bind_eq_some_iff.mp H
                      obtain ⟨t198, A300, H⟩ := H
                      replace H : ((ripple_Sorted.f x6_1).bind fun t201 => ((downpourref14_Same.f k1 t198 t201).bind fun t204 => (if t204 = true then ((downpourlaw14_alive.f).bind fun t205 => (downpourlaw14_RippleOnce.j1 k1 y173 t177 x6_1 (!t205))) else (downpourlaw14_RippleOnce.j1 k1 y173 t177 x6_1 true)))) = some r := H
                      have A30 := Aside0.mk A300
                      clear A300
                      replace H := Option.bind_eq_some_iff.mp H
                      obtain ⟨t201, A310, H⟩ := H
                      replace H : ((downpourref14_Same.f k1 t198 t201).bind fun t204 => (if t204 = true then ((downpourlaw14_alive.f).bind fun t205 => (downpourlaw14_RippleOnce.j1 k1 y173 t177 x6_1 (!t205))) else (downpourlaw14_RippleOnce.j1 k1 y173 t177 x6_1 true))) = some r := H
                      have A31 := Aside0.mk A310
                      clear A310
                      replace H := Option.bind_eq_some_iff.mp H
                      obtain ⟨t204, A320, H⟩ := H
                      replace H : (if t204 = true then ((downpourlaw14_alive.f).bind fun t205 => (downpourlaw14_RippleOnce.j1 k1 y173 t177 x6_1 (!t205))) else (downpourlaw14_RippleOnce.j1 k1 y173 t177 x6_1 true)) = some r := H
                      have A32 := Aside0.mk A320
                      clear A320
                      by_cases c33 : t204 = true
                      · subst c33
                        have H1 : ((downpourlaw14_alive.f).bind fun t205 => (downpourlaw14_RippleOnce.j1 k1 y173 t177 x6_1 (!t205))) = some r := by rw [if_pos rfl] at H; exact H
                        clear H
                        have H := H1
                        clear H1
                        replace H := Option.bind_eq_some_iff.mp H
                        obtain ⟨t205, A340, H⟩ := H
                        replace H : (downpourlaw14_RippleOnce.j1 k1 y173 t177 x6_1 (!t205)) = some r := H
                        have A34 := Aside0.mk A340
                        clear A340
                        have H' := Aside0.mk H
                        clear H
                        obtain ⟨Ao35, co35, eo35⟩ := Kd.R_slice HO197.out
                        subst eo35
                        obtain ⟨Ao36, co36, eo36⟩ := Kd.R_slice HO_6.out
                        subst eo36
                        go_wp2_with (first | (go_at_call 13; (with_reducible refine (ripple_Sorted.calls _ _ y195 t198 _ ?side1 ?side2 A30.out).mono ?_); (case side1 => repeat (first | exact (Kd.R_reads' HO197.out).2.2 | (with_reducible refine Kd.C_alloc ?_ _) | (with_reducible refine Kd.C_drewN ?_ _) | (with_reducible refine Kd.C_drew ?_))); (case side2 => exact (Kd.R_reads' HO197.out).2.1); rintro e w37 ⟨v199, rfl, ho0, hb⟩; have n0_ := Aside0.mk (Kd.R_elder' (by (with_reducible repeat (first | apply Kd.R_alloc | apply Kd.R_drewN | apply Kd.R_drew)); exact HO_3.out) (Kd.R_base ho0) hb); have n1_ := Aside0.mk (Kd.R_elder' (by (with_reducible repeat (first | apply Kd.R_alloc | apply Kd.R_drewN | apply Kd.R_drew)); exact HO_4.out) (Kd.R_base ho0) hb); have n2_ := Aside0.mk (Kd.R_elder' (by (with_reducible repeat (first | apply Kd.R_alloc | apply Kd.R_drewN | apply Kd.R_drew)); exact HO_6.out) (Kd.R_base ho0) hb); have n3_ := Aside0.mk (Kd.R_elder' (by (with_reducible repeat (first | apply Kd.R_alloc | apply Kd.R_drewN | apply Kd.R_drew)); exact HO197.out) (Kd.R_base ho0) hb); have n4_ := Aside0.mk (Kd.R_lower (Kd.R_new' (Kd.R_new' (Kd.R_new' (Kd.R_new' ho0 (Kd.R_lt (by (with_reducible repeat (first | apply Kd.R_alloc | apply Kd.R_drewN | apply Kd.R_drew)); exact HO_3.out))) (Kd.R_lt (by (with_reducible repeat (first | apply Kd.R_alloc | apply Kd.R_drewN | apply Kd.R_drew)); exact HO_4.out))) (Kd.R_lt (by (with_reducible repeat (first | apply Kd.R_alloc | apply Kd.R_drewN | apply Kd.R_drew)); exact HO_6.out))) (Kd.R_lt (by (with_reducible repeat (first | apply Kd.R_alloc | apply Kd.R_drewN | apply Kd.R_drew)); exact HO197.out))) (below_size (by repeat (first | (with_reducible first | exact HB.out | apply below_alloc | apply pw_below_drewN | apply below_drew1) | exact HB.out)))); have n5_ := Aside0.mk (below_step (by repeat (first | (with_reducible first | exact HB.out | apply below_alloc | apply pw_below_drewN | apply below_drew1) | exact HB.out)) hb); clear HO_3; clear HO_4; clear HO_6; clear HO197; clear HB; have HO_3 := n0_; have HO_4 := n1_; have HO_6 := n2_; have HO197 := n3_; have HO200 := n4_; have HB := n5_; clear n0_ n1_ n2_ n3_ n4_ n5_; (try clear hb); (try clear hb2); (try clear hk); (try clear hi); (try clear ho0)) | (go_at_call 13; (with_reducible refine (ripple_Sorted.calls _ _ x6_1 t201 _ ?side1 ?side2 A31.out).mono ?_); (case side1 => repeat (first | exact (Kd.R_reads' HO_6.out).2.2 | (with_reducible refine Kd.C_alloc ?_ _) | (with_reducible refine Kd.C_drewN ?_ _) | (with_reducible refine Kd.C_drew ?_))); (case side2 => exact (Kd.R_reads' HO_6.out).2.1); rintro e w38 ⟨v202, rfl, ho0, hb⟩; have n0_ := Aside0.mk (Kd.R_elder' (by (with_reducible repeat (first | apply Kd.R_alloc | apply Kd.R_drewN | apply Kd.R_drew)); exact HO_3.out) (Kd.R_base ho0) hb); have n1_ := Aside0.mk (Kd.R_elder' (by (with_reducible repeat (first | apply Kd.R_alloc | apply Kd.R_drewN | apply Kd.R_drew)); exact HO_4.out) (Kd.R_base ho0) hb); have n2_ := Aside0.mk (Kd.R_elder' (by (with_reducible repeat (first | apply Kd.R_alloc | apply Kd.R_drewN | apply Kd.R_drew)); exact HO_6.out) (Kd.R_base ho0) hb); have n3_ := Aside0.mk (Kd.R_elder' (by (with_reducible repeat (first | apply Kd.R_alloc | apply Kd.R_drewN | apply Kd.R_drew)); exact HO197.out) (Kd.R_base ho0) hb); have n4_ := Aside0.mk (Kd.R_elder' (by (with_reducible repeat (first | apply Kd.R_alloc | apply Kd.R_drewN | apply Kd.R_drew)); exact HO200.out) (Kd.R_base ho0) hb); have n5_ := Aside0.mk (Kd.R_lower (Kd.R_new' (Kd.R_new' (Kd.R_new' (Kd.R_new' (Kd.R_new' ho0 (Kd.R_lt (by (with_reducible repeat (first | apply Kd.R_alloc | apply Kd.R_drewN | apply Kd.R_drew)); exact HO_3.out))) (Kd.R_lt (by (with_reducible repeat (first | apply Kd.R_alloc | apply Kd.R_drewN | apply Kd.R_drew)); exact HO_4.out))) (Kd.R_lt (by (with_reducible repeat (first | apply Kd.R_alloc | apply Kd.R_drewN | apply Kd.R_drew)); exact HO_6.out))) (Kd.R_lt (by (with_reducible repeat (first | apply Kd.R_alloc | apply Kd.R_drewN | apply Kd.R_drew)); exact HO197.out))) (Kd.R_lt (by (with_reducible repeat (first | apply Kd.R_alloc | apply Kd.R_drewN | apply Kd.R_drew)); exact HO200.out))) (below_size (by repeat (first | (with_reducible first | exact HB.out | apply below_alloc | apply pw_below_drewN | apply below_drew1) | exact HB.out)))); have n6_ := Aside0.mk (below_step (by repeat (first | (with_reducible first | exact HB.out | apply below_alloc | apply pw_below_drewN | apply below_drew1) | exact HB.out)) hb); clear HO_3; clear HO_4; clear HO_6; clear HO197; clear HO200; clear HB; have HO_3 := n0_; have HO_4 := n1_; have HO_6 := n2_; have HO197 := n3_; have HO200 := n4_; have HO203 := n5_; have HB := n6_; clear n0_ n1_ n2_ n3_ n4_ n5_ n6_; (try clear hb); (try clear hb2); (try clear hk); (try clear hi); (try clear ho0); obtain ⟨Ao39, co39, eo39⟩ := Kd.R_slice HO200.out; subst eo39; obtain ⟨Ao40, co40, eo40⟩ := Kd.R_slice HO203.out; subst eo40) | (go_at_call 12; (with_reducible refine (downpourref14_Same.calls k1 _ _ t198 _ _ t201 true _ ?side1 ?side2 ?side3 ?side4 A32.out).mono ?_); (case side1 => repeat (first | exact (Kd.R_reads' HO200.out).2.2 | (with_reducible refine Kd.C_alloc ?_ _) | (with_reducible refine Kd.C_drewN ?_ _) | (with_reducible refine Kd.C_drew ?_))); (case side2 => exact (Kd.R_reads' HO200.out).2.1); (case side3 => repeat (first | exact (Kd.R_reads' HO203.out).2.2 | (with_reducible refine Kd.C_alloc ?_ _) | (with_reducible refine Kd.C_drewN ?_ _) | (with_reducible refine Kd.C_drew ?_))); (case side4 => exact (Kd.R_reads' HO203.out).2.1); rintro e w' ⟨rfl, ⟨nd, rfl⟩⟩) | (go_at_call 14; (with_reducible refine (downpourlaw14_alive.calls  t205 _ A34.out).mono ?_); rintro e w41 ⟨rfl, hb⟩; have n0_ := Aside0.mk (Kd.R_below (by (with_reducible repeat (first | apply Kd.R_alloc | apply Kd.R_drewN | apply Kd.R_drew)); exact HO_3.out) hb); have n1_ := Aside0.mk (Kd.R_below (by (with_reducible repeat (first | apply Kd.R_alloc | apply Kd.R_drewN | apply Kd.R_drew)); exact HO_4.out) hb); have n2_ := Aside0.mk (Kd.R_below (by (with_reducible repeat (first | apply Kd.R_alloc | apply Kd.R_drewN | apply Kd.R_drew)); exact HO_6.out) hb); have n3_ := Aside0.mk (Kd.R_below (by (with_reducible repeat (first | apply Kd.R_alloc | apply Kd.R_drewN | apply Kd.R_drew)); exact HO197.out) hb); have n4_ := Aside0.mk (Kd.R_below (by (with_reducible repeat (first | apply Kd.R_alloc | apply Kd.R_drewN | apply Kd.R_drew)); exact HO200.out) hb); have n5_ := Aside0.mk (Kd.R_below (by (with_reducible repeat (first | apply Kd.R_alloc | apply Kd.R_drewN | apply Kd.R_drew)); exact HO203.out) hb); have n6_ := Aside0.mk (below_step (by repeat (first | (with_reducible first | exact HB.out | apply below_alloc | apply pw_below_drewN | apply below_drew1) | exact HB.out)) hb); clear HO_3; clear HO_4; clear HO_6; clear HO197; clear HO200; clear HO203; clear HB; have HO_3 := n0_; have HO_4 := n1_; have HO_6 := n2_; have HO197 := n3_; have HO200 := n4_; have HO203 := n5_; have HB := n6_; clear n0_ n1_ n2_ n3_ n4_ n5_ n6_; (try clear hb); (try clear hb2); (try clear hk); (try clear hi)))
                        go_meet
                        case rel => exact ⟨_, (!t205), (by first | rfl | (simp; done) | (simp [*]; done)), H', ⟨by have := HK1.out; first | omega | exact Nat.le_refl _⟩, ⟨by (with_reducible repeat (first | apply Kd.R_alloc | apply Kd.R_drewN | apply Kd.R_drew)); exact Kd.R_mono HO_3.out (fun _ hk => hk.1.1.1.2)⟩, ⟨by (with_reducible repeat (first | apply Kd.R_alloc | apply Kd.R_drewN | apply Kd.R_drew)); exact Kd.R_mono HO_6.out (fun _ hk => hk.1.1.1.1)⟩, ⟨by repeat (first | (with_reducible first | exact HB.out | apply below_alloc | apply pw_below_drewN | apply below_drew1) | exact HB.out)⟩⟩
                      · replace c33 := Bool.eq_false_iff.mpr c33
                        subst c33
                        have H1 : (downpourlaw14_RippleOnce.j1 k1 y173 t177 x6_1 true) = some r := by rw [if_neg (show ¬ (false = true) by decide)] at H; exact H
                        clear H
                        have H := H1
                        clear H1
                        have H' := Aside0.mk H
                        clear H
                        obtain ⟨Ao42, co42, eo42⟩ := Kd.R_slice HO197.out
                        subst eo42
                        obtain ⟨Ao43, co43, eo43⟩ := Kd.R_slice HO_6.out
                        subst eo43
                        go_wp2_with (first | (go_at_call 13; (with_reducible refine (ripple_Sorted.calls _ _ y195 t198 _ ?side1 ?side2 A30.out).mono ?_); (case side1 => repeat (first | exact (Kd.R_reads' HO197.out).2.2 | (with_reducible refine Kd.C_alloc ?_ _) | (with_reducible refine Kd.C_drewN ?_ _) | (with_reducible refine Kd.C_drew ?_))); (case side2 => exact (Kd.R_reads' HO197.out).2.1); rintro e w44 ⟨v199, rfl, ho0, hb⟩; have n0_ := Aside0.mk (Kd.R_elder' (by (with_reducible repeat (first | apply Kd.R_alloc | apply Kd.R_drewN | apply Kd.R_drew)); exact HO_3.out) (Kd.R_base ho0) hb); have n1_ := Aside0.mk (Kd.R_elder' (by (with_reducible repeat (first | apply Kd.R_alloc | apply Kd.R_drewN | apply Kd.R_drew)); exact HO_4.out) (Kd.R_base ho0) hb); have n2_ := Aside0.mk (Kd.R_elder' (by (with_reducible repeat (first | apply Kd.R_alloc | apply Kd.R_drewN | apply Kd.R_drew)); exact HO_6.out) (Kd.R_base ho0) hb); have n3_ := Aside0.mk (Kd.R_elder' (by (with_reducible repeat (first | apply Kd.R_alloc | apply Kd.R_drewN | apply Kd.R_drew)); exact HO197.out) (Kd.R_base ho0) hb); have n4_ := Aside0.mk (Kd.R_lower (Kd.R_new' (Kd.R_new' (Kd.R_new' (Kd.R_new' ho0 (Kd.R_lt (by (with_reducible repeat (first | apply Kd.R_alloc | apply Kd.R_drewN | apply Kd.R_drew)); exact HO_3.out))) (Kd.R_lt (by (with_reducible repeat (first | apply Kd.R_alloc | apply Kd.R_drewN | apply Kd.R_drew)); exact HO_4.out))) (Kd.R_lt (by (with_reducible repeat (first | apply Kd.R_alloc | apply Kd.R_drewN | apply Kd.R_drew)); exact HO_6.out))) (Kd.R_lt (by (with_reducible repeat (first | apply Kd.R_alloc | apply Kd.R_drewN | apply Kd.R_drew)); exact HO197.out))) (below_size (by repeat (first | (with_reducible first | exact HB.out | apply below_alloc | apply pw_below_drewN | apply below_drew1) | exact HB.out)))); have n5_ := Aside0.mk (below_step (by repeat (first | (with_reducible first | exact HB.out | apply below_alloc | apply pw_below_drewN | apply below_drew1) | exact HB.out)) hb); clear HO_3; clear HO_4; clear HO_6; clear HO197; clear HB; have HO_3 := n0_; have HO_4 := n1_; have HO_6 := n2_; have HO197 := n3_; have HO200 := n4_; have HB := n5_; clear n0_ n1_ n2_ n3_ n4_ n5_; (try clear hb); (try clear hb2); (try clear hk); (try clear hi); (try clear ho0)) | (go_at_call 13; (with_reducible refine (ripple_Sorted.calls _ _ x6_1 t201 _ ?side1 ?side2 A31.out).mono ?_); (case side1 => repeat (first | exact (Kd.R_reads' HO_6.out).2.2 | (with_reducible refine Kd.C_alloc ?_ _) | (with_reducible refine Kd.C_drewN ?_ _) | (with_reducible refine Kd.C_drew ?_))); (case side2 => exact (Kd.R_reads' HO_6.out).2.1); rintro e w45 ⟨v202, rfl, ho0, hb⟩; have n0_ := Aside0.mk (Kd.R_elder' (by (with_reducible repeat (first | apply Kd.R_alloc | apply Kd.R_drewN | apply Kd.R_drew)); exact HO_3.out) (Kd.R_base ho0) hb); have n1_ := Aside0.mk (Kd.R_elder' (by (with_reducible repeat (first | apply Kd.R_alloc | apply Kd.R_drewN | apply Kd.R_drew)); exact HO_4.out) (Kd.R_base ho0) hb); have n2_ := Aside0.mk (Kd.R_elder' (by (with_reducible repeat (first | apply Kd.R_alloc | apply Kd.R_drewN | apply Kd.R_drew)); exact HO_6.out) (Kd.R_base ho0) hb); have n3_ := Aside0.mk (Kd.R_elder' (by (with_reducible repeat (first | apply Kd.R_alloc | apply Kd.R_drewN | apply Kd.R_drew)); exact HO197.out) (Kd.R_base ho0) hb); have n4_ := Aside0.mk (Kd.R_elder' (by (with_reducible repeat (first | apply Kd.R_alloc | apply Kd.R_drewN | apply Kd.R_drew)); exact HO200.out) (Kd.R_base ho0) hb); have n5_ := Aside0.mk (Kd.R_lower (Kd.R_new' (Kd.R_new' (Kd.R_new' (Kd.R_new' (Kd.R_new' ho0 (Kd.R_lt (by (with_reducible repeat (first | apply Kd.R_alloc | apply Kd.R_drewN | apply Kd.R_drew)); exact HO_3.out))) (Kd.R_lt (by (with_reducible repeat (first | apply Kd.R_alloc | apply Kd.R_drewN | apply Kd.R_drew)); exact HO_4.out))) (Kd.R_lt (by (with_reducible repeat (first | apply Kd.R_alloc | apply Kd.R_drewN | apply Kd.R_drew)); exact HO_6.out))) (Kd.R_lt (by (with_reducible repeat (first | apply Kd.R_alloc | apply Kd.R_drewN | apply Kd.R_drew)); exact HO197.out))) (Kd.R_lt (by (with_reducible repeat (first | apply Kd.R_alloc | apply Kd.R_drewN | apply Kd.R_drew)); exact HO200.out))) (below_size (by repeat (first | (with_reducible first | exact HB.out | apply below_alloc | apply pw_below_drewN | apply below_drew1) | exact HB.out)))); have n6_ := Aside0.mk (below_step (by repeat (first | (with_reducible first | exact HB.out | apply below_alloc | apply pw_below_drewN | apply below_drew1) | exact HB.out)) hb); clear HO_3; clear HO_4; clear HO_6; clear HO197; clear HO200; clear HB; have HO_3 := n0_; have HO_4 := n1_; have HO_6 := n2_; have HO197 := n3_; have HO200 := n4_; have HO203 := n5_; have HB := n6_; clear n0_ n1_ n2_ n3_ n4_ n5_ n6_; (try clear hb); (try clear hb2); (try clear hk); (try clear hi); (try clear ho0); obtain ⟨Ao46, co46, eo46⟩ := Kd.R_slice HO200.out; subst eo46; obtain ⟨Ao47, co47, eo47⟩ := Kd.R_slice HO203.out; subst eo47) | (go_at_call 12; (with_reducible refine (downpourref14_Same.calls k1 _ _ t198 _ _ t201 false _ ?side1 ?side2 ?side3 ?side4 A32.out).mono ?_); (case side1 => repeat (first | exact (Kd.R_reads' HO200.out).2.2 | (with_reducible refine Kd.C_alloc ?_ _) | (with_reducible refine Kd.C_drewN ?_ _) | (with_reducible refine Kd.C_drew ?_))); (case side2 => exact (Kd.R_reads' HO200.out).2.1); (case side3 => repeat (first | exact (Kd.R_reads' HO203.out).2.2 | (with_reducible refine Kd.C_alloc ?_ _) | (with_reducible refine Kd.C_drewN ?_ _) | (with_reducible refine Kd.C_drew ?_))); (case side4 => exact (Kd.R_reads' HO203.out).2.1); rintro e w' ⟨rfl, ⟨nd, rfl⟩⟩))
                        go_meet
                        case rel => exact ⟨_, (true), (by first | rfl | (simp; done) | (simp [*]; done)), H', ⟨by have := HK1.out; first | omega | exact Nat.le_refl _⟩, ⟨by (with_reducible repeat (first | apply Kd.R_alloc | apply Kd.R_drewN | apply Kd.R_drew)); exact Kd.R_mono HO_3.out (fun _ hk => hk.1.1.1.2)⟩, ⟨by (with_reducible repeat (first | apply Kd.R_alloc | apply Kd.R_drewN | apply Kd.R_drew)); exact Kd.R_mono HO_6.out (fun _ hk => hk.1.1.1.1)⟩, ⟨by repeat (first | (with_reducible first | exact HB.out | apply below_alloc | apply pw_below_drewN | apply below_drew1) | exact HB.out)⟩⟩
                    · rw [if_neg c29] at H
                      have c29b0 : ((y195.length : Int) == (x6_1.length : Int)) = false := beq_eq_false_iff_ne.mpr c29
                      have c29b1 : ((y195.length : Int) != (x6_1.length : Int)) = true := bne_iff_ne.mpr c29
                      have c29b2 : (y195.length == x6_1.length) = false := by first | simpa using c29 | (simp at c29 ⊢; omega)
                      have H' := Aside0.mk H
                      clear H
                      obtain ⟨Ao48, co48, eo48⟩ := Kd.R_slice HO197.out
                      subst eo48
                      obtain ⟨Ao49, co49, eo49⟩ := Kd.R_slice HO_6.out
                      subst eo49
                      go_wp2
                      go_meet
                      case rel => exact ⟨_, (true), (by first | rfl | (simp; done) | (simp [*]; done)), H', ⟨by have := HK1.out; first | omega | exact Nat.le_refl _⟩, ⟨by (with_reducible repeat (first | apply Kd.R_alloc | apply Kd.R_drewN | apply Kd.R_drew)); exact Kd.R_mono HO_3.out (fun _ hk => hk.1.2)⟩, ⟨by (with_reducible repeat (first | apply Kd.R_alloc | apply Kd.R_drewN | apply Kd.R_drew)); exact Kd.R_mono HO_6.out (fun _ hk => hk.1.1)⟩, ⟨by repeat (first | (with_reducible first | exact HB.out | apply below_alloc | apply pw_below_drewN | apply below_drew1) | exact HB.out)⟩⟩
                  · rw [if_neg c28] at H
                    have c28b0 : ((wrap64 ((t177.length : Int) + t179)) == x7_1) = false := beq_eq_false_iff_ne.mpr c28
                    have c28b1 : ((wrap64 ((t177.length : Int) + t179)) != x7_1) = true := bne_iff_ne.mpr c28
                    (first | rw [c28b0] | (simp only [i64_w, i32_w]; rw [c28b0]) | skip)
                    have H' := Aside0.mk H
                    clear H
                    go_wp2
                    go_meet
                    case rel => exact ⟨_, (true), (by first | rfl | (simp; done) | (simp [*]; done)), H', ⟨by have := HK1.out; first | omega | exact Nat.le_refl _⟩, ⟨by (with_reducible repeat (first | apply Kd.R_alloc | apply Kd.R_drewN | apply Kd.R_drew)); exact Kd.R_mono HO_3.out (fun _ hk => hk.1.2)⟩, ⟨by (with_reducible repeat (first | apply Kd.R_alloc | apply Kd.R_drewN | apply Kd.R_drew)); exact Kd.R_mono HO_6.out (fun _ hk => hk.1.1)⟩, ⟨by repeat (first | (with_reducible first | exact HB.out | apply below_alloc | apply pw_below_drewN | apply below_drew1) | exact HB.out)⟩⟩
                case rest =>
                  clear HC21
                  try clear c1
                  try clear p1
                  try clear q1
                  try clear hx1
                  try clear c2
                  try clear p2
                  try clear c3
                  try clear c3b0
                  try clear c3b1
                  try clear c4
                  try clear c4b0
                  try clear c4b1
                  try clear c6
                  try clear p6
                  try clear q6
                  try clear c8
                  try clear c8b0
                  try clear c9
                  try clear c9b0
                  try clear c10
                  try clear c10b0
                  try clear q11
                  try clear c12
                  try clear c15
                  try clear p18
                  try clear q18
                  try clear hx18
                  try clear c19
                  try clear c20
                  try clear c28
                  try clear c28b0
                  try clear c28b1
                  try clear c29
                  try clear c29b0
                  try clear c29b1
                  try clear c29b2
                  try clear c33
                  try clear hcz14_0
                  try clear hcz14_1
                  try clear hcz14_2
                  try clear hcz17_0
                  try clear hcz17_1
                  try clear hcz17_2
                  try clear hfz14_0
                  try clear hfz14_1
                  try clear hfz14_2
                  try clear hfz17_0
                  try clear hfz17_1
                  try clear hfz17_2
                  try clear hx184_0
                  try clear hx184_1
                  try clear hx184_2
                  try clear p184
                  try clear p2
                  try clear q184
                  try clear q6
                  obtain ⟨kq, x78_20, rfl, HA, HJ20, HO_3, HO_6, HB⟩ := hcut
                  cases kq with
                  | zero => exact absurd HA.out (by simp [downpourlaw14_RippleOnce.j1])
                  | succ kj20 =>
                    have H := HA.out
                    clear HA
                    simp only [downpourlaw14_RippleOnce.j1] at H
                    by_cases c50 : x78_20 = true
                    · subst c50
                      have H1 : (some false) = some r := by rw [if_pos rfl] at H; exact H
                      clear H
                      have H := H1
                      clear H1
                      obtain rfl := Option.some.inj H
                      go_wp2
                      go_ret
                      exact ⟨by first | rfl | (simp [errW_none, errW_some] <;> rfl) | (simp only [← hji2]; first | rfl | (simp [errW_none, errW_some] <;> rfl)) | (simp [*, errW_none, errW_some] <;> rfl), by repeat (first | (with_reducible first | exact HB.out | apply below_alloc | apply pw_below_drewN | apply below_drew1) | exact HB.out)⟩
                    · replace c50 := Bool.eq_false_iff.mpr c50
                      subst c50
                      have H1 : (downpourlaw14_RippleOnce.l1 kj20 t177 x6_1 0 0 (-1) y173 (y173.length : Int) 0) = some r := by rw [if_neg (show ¬ (false = true) by decide)] at H; exact H
                      clear H
                      have H := H1
                      clear H1
                      have H' := Aside0.mk H
                      clear H
                      go_wp2
                      go_loopg [11, 12, 13, 81] kj20 (fun kq v11 v12 v13 v81 w' => ∃ (x11_3 : Int) (x12_3 : Int) (x13_3 : Int) (x81_3 : Int), v11 = .int .i64 x11_3 ∧ v12 = .int .i64 x12_3 ∧ v13 = .int .i64 x13_3 ∧ v81 = .int .i64 x81_3 ∧ Aside0 (downpourlaw14_RippleOnce.l1 kq t177 x6_1 x11_3 x12_3 x13_3 y173 (y173.length : Int) x81_3 = some r) ∧ Aside0 (kq ≤ kj20) ∧ Aside0 (Kd.R k24 24 w' w.heap.size (fun k_ => some k_ ≠ (u6 : Value).ownBlock) (.slice Ao25 t177.length co25) t177) ∧ Aside0 (Kd.R k24 24 w' w.heap.size (fun k_ => some k_ ≠ ((.slice Ao25 t177.length co25) : Value).ownBlock) u6 x6_1) ∧ Aside0 (Below w.heap.size w w'))
                      case atStart => exact ⟨(0), (0), ((-1)), (0), (by first | rfl | (simp; done) | (simp [*]; done)), (by first | rfl | (simp; done) | (simp [*]; done)), (by first | rfl | (simp; done) | (simp [*]; done)), (by first | rfl | (simp; done) | (simp [*]; done)), H', ⟨Nat.le_refl _⟩, ⟨by (with_reducible repeat (first | apply Kd.R_alloc | apply Kd.R_drewN | apply Kd.R_drew)); exact HO_3.out⟩, ⟨by (with_reducible repeat (first | apply Kd.R_alloc | apply Kd.R_drewN | apply Kd.R_drew)); exact HO_6.out⟩, ⟨by repeat (first | (with_reducible first | exact HB.out | apply below_alloc | apply pw_below_drewN | apply below_drew1) | exact HB.out)⟩⟩
                      case round =>
                        clear H'
                        try clear c1
                        try clear p1
                        try clear q1
                        try clear hx1
                        try clear c2
                        try clear p2
                        try clear c3
                        try clear c3b0
                        try clear c3b1
                        try clear c4
                        try clear c4b0
                        try clear c4b1
                        try clear c5
                        try clear c6
                        try clear p6
                        try clear q6
                        try clear c8
                        try clear c8b0
                        try clear c9
                        try clear c9b0
                        try clear c10
                        try clear c10b0
                        try clear q11
                        try clear c12
                        try clear c15
                        try clear p18
                        try clear q18
                        try clear hx18
                        try clear c19
                        try clear c20
                        try clear c28
                        try clear c28b0
                        try clear c28b1
                        try clear c29
                        try clear c29b0
                        try clear c29b1
                        try clear c29b2
                        try clear c33
                        try clear c50
                        try clear hcz14_0
                        try clear hcz14_1
                        try clear hcz14_2
                        try clear hcz17_0
                        try clear hcz17_1
                        try clear hcz17_2
                        try clear hfz14_0
                        try clear hfz14_1
                        try clear hfz14_2
                        try clear hfz17_0
                        try clear hfz17_1
                        try clear hfz17_2
                        try clear hx184_0
                        try clear hx184_1
                        try clear hx184_2
                        try clear p1
                        try clear p18
                        try clear p184
                        try clear p2
                        try clear p6
                        try clear q1
                        try clear q11
                        try clear q18
                        try clear q184
                        try clear q6
                        obtain ⟨x11_3, x12_3, x13_3, x81_3, rfl, rfl, rfl, rfl, HA, HK3, HO_3, HO_6, HB⟩ := hrel
                        cases gk with
                        | zero => exact absurd HA.out (by simp [downpourlaw14_RippleOnce.l1])
                        | succ k3 =>
                          have H := HA.out
                          clear HA
                          simp only [downpourlaw14_RippleOnce.l1] at H
                          by_cases c51 : x81_3 < (y173.length : Int)
                          · rw [if_pos c51] at H
                            have c51b0 : decide (x81_3 < (y173.length : Int)) = true := decide_eq_true c51
                            clear c51
                            by_cases c52 : 0 ≤ x81_3
                            · rw [if_pos c52] at H
                              have c52b0 : decide (0 ≤ x81_3) = true := decide_eq_true c52
                              clear c52
                              by_cases c53 : x81_3 < (y173.length : Int)
                              · rw [if_pos c53] at H
                                have c53b0 : decide (x81_3 < (y173.length : Int)) = true := decide_eq_true c53
                                clear c53
                                obtain ⟨bq54, hbq54⟩ : ∃ b_ : Bool, b_ = ((rd_T43 y173 x81_3).f0) := ⟨_, rfl⟩
                                replace H : (if (bq54 = true) then (if x11_3 = 0 then (downpourlaw14_RippleOnce.l1 k3 t177 x6_1 x11_3 x12_3 x13_3 y173 (y173.length : Int) (wrap64 (x81_3 + 1))) else (if x12_3 = (t177.length : Int) then (some false) else (if x13_3 ≥ 0 then (if 0 ≤ x12_3 then (if x12_3 < (t177.length : Int) then (if 0 ≤ x13_3 then (if x13_3 < (t177.length : Int) then ((ripple_Before.f ((rd_T24 t177 x12_3).f0) ((rd_T24 t177 x12_3).f1) ((rd_T24 t177 x13_3).f0) ((rd_T24 t177 x13_3).f1)).bind fun t210 => (if t210 = true then (some false) else (downpourlaw14_RippleOnce.l1 k3 t177 x6_1 (wrap64 (x11_3 - 1)) (wrap64 (x12_3 + 1)) x12_3 y173 (y173.length : Int) (wrap64 (x81_3 + 1))))) else (none)) else (none)) else (none)) else (none)) else (downpourlaw14_RippleOnce.l1 k3 t177 x6_1 (wrap64 (x11_3 - 1)) (wrap64 (x12_3 + 1)) x12_3 y173 (y173.length : Int) (wrap64 (x81_3 + 1)))))) else (downpourlaw14_RippleOnce.l1 k3 t177 x6_1 (wrap64 (x11_3 + 1)) x12_3 (-1) y173 (y173.length : Int) (wrap64 (x81_3 + 1)))) = some r := by rw [← hbq54] at H; exact H
                                have Nbq54 := Aside0.mk hbq54
                                clear hbq54
                                by_cases c55 : (bq54 = true)
                                · subst c55
                                  have H1 : (if x11_3 = 0 then (downpourlaw14_RippleOnce.l1 k3 t177 x6_1 x11_3 x12_3 x13_3 y173 (y173.length : Int) (wrap64 (x81_3 + 1))) else (if x12_3 = (t177.length : Int) then (some false) else (if x13_3 ≥ 0 then (if 0 ≤ x12_3 then (if x12_3 < (t177.length : Int) then (if 0 ≤ x13_3 then (if x13_3 < (t177.length : Int) then ((ripple_Before.f ((rd_T24 t177 x12_3).f0) ((rd_T24 t177 x12_3).f1) ((rd_T24 t177 x13_3).f0) ((rd_T24 t177 x13_3).f1)).bind fun t210 => (if t210 = true then (some false) else (downpourlaw14_RippleOnce.l1 k3 t177 x6_1 (wrap64 (x11_3 - 1)) (wrap64 (x12_3 + 1)) x12_3 y173 (y173.length : Int) (wrap64 (x81_3 + 1))))) else (none)) else (none)) else (none)) else (none)) else (downpourlaw14_RippleOnce.l1 k3 t177 x6_1 (wrap64 (x11_3 - 1)) (wrap64 (x12_3 + 1)) x12_3 y173 (y173.length : Int) (wrap64 (x81_3 + 1)))))) = some r := by rw [if_pos rfl] at H; exact H
                                  clear H
                                  have H := H1
                                  clear H1
                                  by_cases c56 : x11_3 = 0
                                  · rw [if_pos c56] at H
                                    have c56b0 : (x11_3 == 0) = true := beq_iff_eq.mpr c56
                                    have c56b1 : (x11_3 != 0) = false := bne_eq_false_iff_eq.mpr c56
                                    clear c56
                                    have H' := Aside0.mk H
                                    clear H
                                    have p206 : 0 ≤ (x81_3 : Int) := of_decide_eq_true (by first | (with_reducible assumption) | assumption)
                                    have q206 : x81_3 < (y173.length : Int) := of_decide_eq_true (by first | (with_reducible assumption) | assumption)
                                    obtain ⟨ad206, e206, hx206_0, hx206_1, hx206_2⟩ := at_T43 HR176.out x81_3 p206 q206
                                    (try rw [← Nbq54.out] at hx206_0)
                                    cases e206
                                    replace hx206_0 := (HB.out.cell (World.block_lt_of_cell? w _ hx206_0)).trans hx206_0
                                    replace hx206_1 := (HB.out.cell (World.block_lt_of_cell? w _ hx206_1)).trans hx206_1
                                    replace hx206_2 := (HB.out.cell (World.block_lt_of_cell? w _ hx206_2)).trans hx206_2
                                    replace p206 := eq_true p206
                                    replace q206 := eq_true q206
                                    go_wp2_with (first | ((with_reducible refine gate_dst (N := 15) rfl ?_); (try (refine gate_guard (by rfl) ?_; dsimp only)); refine box_event ?hg (N := 15) ?hd (cs := #[.bool false, .int .i64 0, .int .u64 0]) (t := 43) ?hr ?_; (case hd => rfl); (case hg => rfl); (case hr => first | (go_simp; done) | (go_simp; rfl)); intro gb207 hg w57 hbox hb; have n0_ := Aside0.mk (Kd.R_below (by (with_reducible repeat (first | apply Kd.R_alloc | apply Kd.R_drewN | apply Kd.R_drew)); exact HO_3.out) hb); have n1_ := Aside0.mk (Kd.R_below (by (with_reducible repeat (first | apply Kd.R_alloc | apply Kd.R_drewN | apply Kd.R_drew)); exact HO_6.out) hb); have n2_ := Aside0.mk (below_step (by repeat (first | (with_reducible first | exact HB.out | apply below_alloc | apply pw_below_drewN | apply below_drew1) | exact HB.out)) hb); have n3_ := Aside0.mk (hbox); have n4_ := Aside0.mk ((by rw [hg]; exact (below_size (by repeat (first | (with_reducible first | exact HB.out | apply below_alloc | apply pw_below_drewN | apply below_drew1) | exact HB.out))) : w.heap.size ≤ gb207)); have n5_ := Aside0.mk ((by rw [hg]; exact (below_size (by repeat (first | (with_reducible first | exact HB.out | apply below_alloc | apply pw_below_drewN | apply below_drew1) | exact HB.out))) : w.heap.size ≤ gb207)); clear HO_3; clear HO_6; clear HB; have HO_3 := n0_; have HO_6 := n1_; have HB := n2_; have BK207 := n3_; have GW207 := n4_; have GE207 := n5_; clear n0_ n1_ n2_ n3_ n4_ n5_; clear hb hbox hg; have hcz58_0 : w57.cell? ⟨gb207, 0, none⟩ = some (.bool false) := (blk_cell BK207.out 0).trans rfl; have hcz58_1 : w57.cell? ⟨gb207, 1, none⟩ = some (.int .i64 0) := (blk_cell BK207.out 1).trans rfl; have hcz58_2 : w57.cell? ⟨gb207, 2, none⟩ = some (.int .u64 0) := (blk_cell BK207.out 2).trans rfl; have hfz58_0 := blk_frozen BK207.out 0; have hfz58_1 := blk_frozen BK207.out 1; have hfz58_2 := blk_frozen BK207.out 2))
                                    go_roundg k3
                                    case measure => have := HK1.out; have := HJ20.out; have := HK3.out; omega
                                    case rel => exact ⟨(x11_3), (x12_3), (x13_3), (wrap64 (x81_3 + 1)), (by first | rfl | (simp; done) | (simp [*]; done)), (by first | rfl | (simp; done) | (simp [*]; done)), (by first | rfl | (simp; done) | (simp [*]; done)), (by first | rfl | (simp; done) | (simp [*]; done)), H', ⟨by have := HK1.out; have := HJ20.out; have := HK3.out; omega⟩, ⟨by (with_reducible repeat (first | apply Kd.R_alloc | apply Kd.R_drewN | apply Kd.R_drew)); exact Kd.R_mono (Kd.R_far (p := ⟨gb207, 2, none⟩) (Kd.R_far (p := ⟨gb207, 1, none⟩) (Kd.R_far (p := ⟨gb207, 0, none⟩) (Kd.R_types HO_3.out BK207.out (by decide)) (fun _ hk => hk.2) (.bool true)) (fun _ hk => hk.2) (.int .i64 ((rd_T43 y173 x81_3).f1.f0))) (fun _ hk => hk.2) (.int .u64 ((rd_T43 y173 x81_3).f1.f1))) (fun _ hk => hk.1)⟩, ⟨by (with_reducible repeat (first | apply Kd.R_alloc | apply Kd.R_drewN | apply Kd.R_drew)); exact Kd.R_mono (Kd.R_far (p := ⟨gb207, 2, none⟩) (Kd.R_far (p := ⟨gb207, 1, none⟩) (Kd.R_far (p := ⟨gb207, 0, none⟩) (Kd.R_types HO_6.out BK207.out (by decide)) (fun _ hk => hk.2) (.bool true)) (fun _ hk => hk.2) (.int .i64 ((rd_T43 y173 x81_3).f1.f0))) (fun _ hk => hk.2) (.int .u64 ((rd_T43 y173 x81_3).f1.f1))) (fun _ hk => hk.1)⟩, ⟨by repeat (first | (with_reducible first | exact HB.out | apply below_alloc | apply pw_below_drewN | apply below_drew1 | refine below_set ?_ GE207.out) | exact HB.out)⟩⟩
                                  · rw [if_neg c56] at H
                                    have c56b0 : (x11_3 == 0) = false := beq_eq_false_iff_ne.mpr c56
                                    have c56b1 : (x11_3 != 0) = true := bne_iff_ne.mpr c56
                                    by_cases c59 : x12_3 = (t177.length : Int)
                                    · rw [if_pos c59] at H
                                      have c59b0 : (x12_3 == (t177.length : Int)) = true := beq_iff_eq.mpr c59
                                      have c59b1 : (x12_3 != (t177.length : Int)) = false := bne_eq_false_iff_eq.mpr c59
                                      clear c59
                                      obtain rfl := Option.some.inj H
                                      have p206 : 0 ≤ (x81_3 : Int) := of_decide_eq_true (by first | (with_reducible assumption) | assumption)
                                      have q206 : x81_3 < (y173.length : Int) := of_decide_eq_true (by first | (with_reducible assumption) | assumption)
                                      obtain ⟨ad206, e206, hx206_0, hx206_1, hx206_2⟩ := at_T43 HR176.out x81_3 p206 q206
                                      (try rw [← Nbq54.out] at hx206_0)
                                      cases e206
                                      replace hx206_0 := (HB.out.cell (World.block_lt_of_cell? w _ hx206_0)).trans hx206_0
                                      replace hx206_1 := (HB.out.cell (World.block_lt_of_cell? w _ hx206_1)).trans hx206_1
                                      replace hx206_2 := (HB.out.cell (World.block_lt_of_cell? w _ hx206_2)).trans hx206_2
                                      replace p206 := eq_true p206
                                      replace q206 := eq_true q206
                                      go_wp2_with (first | ((with_reducible refine gate_dst (N := 15) rfl ?_); (try (refine gate_guard (by rfl) ?_; dsimp only)); refine box_event ?hg (N := 15) ?hd (cs := #[.bool false, .int .i64 0, .int .u64 0]) (t := 43) ?hr ?_; (case hd => rfl); (case hg => rfl); (case hr => first | (go_simp; done) | (go_simp; rfl)); intro gb207 hg w60 hbox hb; have n0_ := Aside0.mk (Kd.R_below (by (with_reducible repeat (first | apply Kd.R_alloc | apply Kd.R_drewN | apply Kd.R_drew)); exact HO_3.out) hb); have n1_ := Aside0.mk (Kd.R_below (by (with_reducible repeat (first | apply Kd.R_alloc | apply Kd.R_drewN | apply Kd.R_drew)); exact HO_6.out) hb); have n2_ := Aside0.mk (below_step (by repeat (first | (with_reducible first | exact HB.out | apply below_alloc | apply pw_below_drewN | apply below_drew1) | exact HB.out)) hb); have n3_ := Aside0.mk (hbox); have n4_ := Aside0.mk ((by rw [hg]; exact (below_size (by repeat (first | (with_reducible first | exact HB.out | apply below_alloc | apply pw_below_drewN | apply below_drew1) | exact HB.out))) : w.heap.size ≤ gb207)); have n5_ := Aside0.mk ((by rw [hg]; exact (below_size (by repeat (first | (with_reducible first | exact HB.out | apply below_alloc | apply pw_below_drewN | apply below_drew1) | exact HB.out))) : w.heap.size ≤ gb207)); clear HO_3; clear HO_6; clear HB; have HO_3 := n0_; have HO_6 := n1_; have HB := n2_; have BK207 := n3_; have GW207 := n4_; have GE207 := n5_; clear n0_ n1_ n2_ n3_ n4_ n5_; clear hb hbox hg; have hcz61_0 : w60.cell? ⟨gb207, 0, none⟩ = some (.bool false) := (blk_cell BK207.out 0).trans rfl; have hcz61_1 : w60.cell? ⟨gb207, 1, none⟩ = some (.int .i64 0) := (blk_cell BK207.out 1).trans rfl; have hcz61_2 : w60.cell? ⟨gb207, 2, none⟩ = some (.int .u64 0) := (blk_cell BK207.out 2).trans rfl; have hfz61_0 := blk_frozen BK207.out 0; have hfz61_1 := blk_frozen BK207.out 1; have hfz61_2 := blk_frozen BK207.out 2))
                                      go_ret
                                      exact ⟨by first | rfl | (simp [errW_none, errW_some] <;> rfl) | (simp only [← hji2]; first | rfl | (simp [errW_none, errW_some] <;> rfl)) | (simp [*, errW_none, errW_some] <;> rfl), by repeat (first | (with_reducible first | exact HB.out | apply below_alloc | apply pw_below_drewN | apply below_drew1 | refine below_set ?_ GE207.out) | exact HB.out)⟩
                                    · rw [if_neg c59] at H
                                      have c59b0 : (x12_3 == (t177.length : Int)) = false := beq_eq_false_iff_ne.mpr c59
                                      have c59b1 : (x12_3 != (t177.length : Int)) = true := bne_iff_ne.mpr c59
                                      by_cases c62 : x13_3 ≥ 0
                                      · rw [if_pos c62] at H
                                        have c62b0 : decide (0 ≤ x13_3) = true := decide_eq_true c62
                                        clear c62
                                        by_cases c63 : 0 ≤ x12_3
                                        · rw [if_pos c63] at H
                                          have c63b0 : decide (0 ≤ x12_3) = true := decide_eq_true c63
                                          clear c63
                                          by_cases c64 : x12_3 < (t177.length : Int)
                                          · rw [if_pos c64] at H
                                            have c64b0 : decide (x12_3 < (t177.length : Int)) = true := decide_eq_true c64
                                            clear c64
                                            by_cases c65 : 0 ≤ x13_3
                                            · rw [if_pos c65] at H
                                              have c65b0 : decide (0 ≤ x13_3) = true := decide_eq_true c65
                                              clear c65
                                              by_cases c66 : x13_3 < (t177.length : Int)
                                              · rw [if_pos c66] at H
                                                have c66b0 : decide (x13_3 < (t177.length : Int)) = true := decide_eq_true c66
                                                clear c66
                                                replace H := Option.bind_eq_some_iff.mp H
                                                obtain ⟨t210, A670, H⟩ := H
                                                replace H : (if t210 = true then (some false) else (downpourlaw14_RippleOnce.l1 k3 t177 x6_1 (wrap64 (x11_3 - 1)) (wrap64 (x12_3 + 1)) x12_3 y173 (y173.length : Int) (wrap64 (x81_3 + 1)))) = some r := H
                                                have A67 := Aside0.mk A670
                                                clear A670
                                                by_cases c68 : t210 = true
                                                · subst c68
                                                  have H1 : (some false) = some r := by rw [if_pos rfl] at H; exact H
                                                  clear H
                                                  have H := H1
                                                  clear H1
                                                  obtain rfl := Option.some.inj H
                                                  have p206 : 0 ≤ (x81_3 : Int) := of_decide_eq_true (by first | (with_reducible assumption) | assumption)
                                                  have q206 : x81_3 < (y173.length : Int) := of_decide_eq_true (by first | (with_reducible assumption) | assumption)
                                                  obtain ⟨ad206, e206, hx206_0, hx206_1, hx206_2⟩ := at_T43 HR176.out x81_3 p206 q206
                                                  (try rw [← Nbq54.out] at hx206_0)
                                                  cases e206
                                                  replace hx206_0 := (HB.out.cell (World.block_lt_of_cell? w _ hx206_0)).trans hx206_0
                                                  replace hx206_1 := (HB.out.cell (World.block_lt_of_cell? w _ hx206_1)).trans hx206_1
                                                  replace hx206_2 := (HB.out.cell (World.block_lt_of_cell? w _ hx206_2)).trans hx206_2
                                                  replace p206 := eq_true p206
                                                  replace q206 := eq_true q206
                                                  try go_wp2_with (first | ((with_reducible refine gate_dst (N := 15) rfl ?_); (try (refine gate_guard (by rfl) ?_; dsimp only)); refine box_event ?hg (N := 15) ?hd (cs := #[.bool false, .int .i64 0, .int .u64 0]) (t := 43) ?hr ?_; (case hd => rfl); (case hg => rfl); (case hr => first | (go_simp; done) | (go_simp; rfl)); intro gb207 hg w69 hbox hb; have n0_ := Aside0.mk (Kd.R_below (by (with_reducible repeat (first | apply Kd.R_alloc | apply Kd.R_drewN | apply Kd.R_drew)); exact HO_3.out) hb); have n1_ := Aside0.mk (Kd.R_below (by (with_reducible repeat (first | apply Kd.R_alloc | apply Kd.R_drewN | apply Kd.R_drew)); exact HO_6.out) hb); have n2_ := Aside0.mk (below_step (by repeat (first | (with_reducible first | exact HB.out | apply below_alloc | apply pw_below_drewN | apply below_drew1) | exact HB.out)) hb); have n3_ := Aside0.mk (hbox); have n4_ := Aside0.mk ((by rw [hg]; exact (below_size (by repeat (first | (with_reducible first | exact HB.out | apply below_alloc | apply pw_below_drewN | apply below_drew1) | exact HB.out))) : w.heap.size ≤ gb207)); have n5_ := Aside0.mk ((by rw [hg]; exact (below_size (by repeat (first | (with_reducible first | exact HB.out | apply below_alloc | apply pw_below_drewN | apply below_drew1) | exact HB.out))) : w.heap.size ≤ gb207)); clear HO_3; clear HO_6; clear HB; have HO_3 := n0_; have HO_6 := n1_; have HB := n2_; have BK207 := n3_; have GW207 := n4_; have GE207 := n5_; clear n0_ n1_ n2_ n3_ n4_ n5_; clear hb hbox hg; have hcz70_0 : w69.cell? ⟨gb207, 0, none⟩ = some (.bool false) := (blk_cell BK207.out 0).trans rfl; have hcz70_1 : w69.cell? ⟨gb207, 1, none⟩ = some (.int .i64 0) := (blk_cell BK207.out 1).trans rfl; have hcz70_2 : w69.cell? ⟨gb207, 2, none⟩ = some (.int .u64 0) := (blk_cell BK207.out 2).trans rfl; have hfz70_0 := blk_frozen BK207.out 0; have hfz70_1 := blk_frozen BK207.out 1; have hfz70_2 := blk_frozen BK207.out 2))
                                                  have n0_ : Aside0 (Kd.R k24 24 (((w69.setCell ⟨gb207, 0, none⟩ (.bool true)).setCell ⟨gb207, 1, none⟩ (.int .i64 ((rd_T43 y173 x81_3).f1.f0))).setCell ⟨gb207, 2, none⟩ (.int .u64 ((rd_T43 y173 x81_3).f1.f1))) w.heap.size (fun k_ => some k_ ≠ (u6 : Value).ownBlock) (.slice Ao25 t177.length co25) t177) := ⟨by (with_reducible repeat (first | apply Kd.R_alloc | apply Kd.R_drewN | apply Kd.R_drew)); exact Kd.R_mono (Kd.R_far (p := ⟨gb207, 2, none⟩) (Kd.R_far (p := ⟨gb207, 1, none⟩) (Kd.R_far (p := ⟨gb207, 0, none⟩) (Kd.R_types HO_3.out BK207.out (by decide)) (fun _ hk => hk.2) (.bool true)) (fun _ hk => hk.2) (.int .i64 ((rd_T43 y173 x81_3).f1.f0))) (fun _ hk => hk.2) (.int .u64 ((rd_T43 y173 x81_3).f1.f1))) (fun _ hk => hk.1)⟩
                                                  have n1_ : Aside0 (Kd.R k24 24 (((w69.setCell ⟨gb207, 0, none⟩ (.bool true)).setCell ⟨gb207, 1, none⟩ (.int .i64 ((rd_T43 y173 x81_3).f1.f0))).setCell ⟨gb207, 2, none⟩ (.int .u64 ((rd_T43 y173 x81_3).f1.f1))) w.heap.size (fun k_ => some k_ ≠ (.slice Ao25 t177.length co25 : Value).ownBlock) u6 x6_1) := ⟨by (with_reducible repeat (first | apply Kd.R_alloc | apply Kd.R_drewN | apply Kd.R_drew)); exact Kd.R_mono (Kd.R_far (p := ⟨gb207, 2, none⟩) (Kd.R_far (p := ⟨gb207, 1, none⟩) (Kd.R_far (p := ⟨gb207, 0, none⟩) (Kd.R_types HO_6.out BK207.out (by decide)) (fun _ hk => hk.2) (.bool true)) (fun _ hk => hk.2) (.int .i64 ((rd_T43 y173 x81_3).f1.f0))) (fun _ hk => hk.2) (.int .u64 ((rd_T43 y173 x81_3).f1.f1))) (fun _ hk => hk.1)⟩
                                                  have n2_ : Aside0 ((((w69.setCell ⟨gb207, 0, none⟩ (.bool true)).setCell ⟨gb207, 1, none⟩ (.int .i64 ((rd_T43 y173 x81_3).f1.f0))).setCell ⟨gb207, 2, none⟩ (.int .u64 ((rd_T43 y173 x81_3).f1.f1))).heap[gb207]? = some (.cells #[.bool true, .int .i64 ((rd_T43 y173 x81_3).f1.f0), .int .u64 ((rd_T43 y173 x81_3).f1.f1)] 43 (0, 0))) := ⟨by (with_reducible repeat (first | refine blk_drewN ?_ _ | refine blk_drew ?_ | refine blk_alloc ?_ _)); refine blk_put (cs := #[.bool true, .int .i64 ((rd_T43 y173 x81_3).f1.f0), .int .u64 0]) ?_ 2 _ rfl; (with_reducible repeat (first | refine blk_drewN ?_ _ | refine blk_drew ?_ | refine blk_alloc ?_ _)); refine blk_put (cs := #[.bool true, .int .i64 0, .int .u64 0]) ?_ 1 _ rfl; (with_reducible repeat (first | refine blk_drewN ?_ _ | refine blk_drew ?_ | refine blk_alloc ?_ _)); refine blk_put (cs := #[.bool false, .int .i64 0, .int .u64 0]) ?_ 0 _ rfl; (with_reducible repeat (first | refine blk_drewN ?_ _ | refine blk_drew ?_ | refine blk_alloc ?_ _)); exact BK207.out⟩
                                                  have n3_ : Aside0 (Below w.heap.size w (((w69.setCell ⟨gb207, 0, none⟩ (.bool true)).setCell ⟨gb207, 1, none⟩ (.int .i64 ((rd_T43 y173 x81_3).f1.f0))).setCell ⟨gb207, 2, none⟩ (.int .u64 ((rd_T43 y173 x81_3).f1.f1)))) := ⟨by repeat (first | (with_reducible first | exact HB.out | apply below_alloc | apply pw_below_drewN | apply below_drew1 | refine below_set ?_ GE207.out) | exact HB.out)⟩
                                                  (try clear HO_3)
                                                  (try clear HO_6)
                                                  (try clear BK207)
                                                  (try clear HB)
                                                  generalize (((w69.setCell ⟨gb207, 0, none⟩ (.bool true)).setCell ⟨gb207, 1, none⟩ (.int .i64 ((rd_T43 y173 x81_3).f1.f0))).setCell ⟨gb207, 2, none⟩ (.int .u64 ((rd_T43 y173 x81_3).f1.f1))) = w71 at n0_ n1_ n2_ n3_ ⊢
                                                  have HO_3 := n0_
                                                  have HO_6 := n1_
                                                  have BK207 := n2_
                                                  have HB := n3_
                                                  clear n0_ n1_ n2_ n3_
                                                  have n0_ := Aside0.mk (Kd.R_drew HO_3.out)
                                                  have n1_ := Aside0.mk (Kd.R_drew HO_6.out)
                                                  have n2_ := Aside0.mk (blk_drew BK207.out)
                                                  have n3_ := Aside0.mk (below_drew1 HB.out)
                                                  clear HO_3
                                                  clear HO_6
                                                  clear BK207
                                                  clear HB
                                                  have HO_3 := n0_
                                                  have HO_6 := n1_
                                                  have BK207 := n2_
                                                  have HB := n3_
                                                  clear n0_ n1_ n2_ n3_
                                                  have p208 : 0 ≤ (x12_3 : Int) := of_decide_eq_true (by first | (with_reducible assumption) | assumption)
                                                  have q208 : x12_3 < (t177.length : Int) := of_decide_eq_true (by first | (with_reducible assumption) | assumption)
                                                  obtain ⟨ad208, e208, hx208_0, hx208_1⟩ := at_T24 (Kd.R_reads' HO_3.out).2.2 x12_3 p208 q208
                                                  cases e208
                                                  replace p208 := eq_true p208
                                                  replace q208 := eq_true q208
                                                  have p209 : 0 ≤ (x13_3 : Int) := of_decide_eq_true (by first | (with_reducible assumption) | assumption)
                                                  have q209 : x13_3 < (t177.length : Int) := of_decide_eq_true (by first | (with_reducible assumption) | assumption)
                                                  obtain ⟨ad209, e209, hx209_0, hx209_1⟩ := at_T24 (Kd.R_reads' HO_3.out).2.2 x13_3 p209 q209
                                                  obtain rfl : ad208 = ad209 := (by injection e209)
                                                  replace p209 := eq_true p209
                                                  replace q209 := eq_true q209
                                                  refine start_ (n := 13) (S := fun w' => w'.cell? (ad208.add ((x12_3).toNat * 2)) = some (.int .i64 ((rd_T24 t177 x12_3).f0)) ∧ w'.cell? ⟨(ad208.add ((x12_3).toNat * 2)).block, (ad208.add ((x12_3).toNat * 2)).off + 1, none⟩ = some (.int .u64 ((rd_T24 t177 x12_3).f1)) ∧ w'.cell? (ad208.add ((x13_3).toNat * 2)) = some (.int .i64 ((rd_T24 t177 x13_3).f0)) ∧ w'.cell? ⟨(ad208.add ((x13_3).toNat * 2)).block, (ad208.add ((x13_3).toNat * 2)).off + 1, none⟩ = some (.int .u64 ((rd_T24 t177 x13_3).f1))) (ds := []) #[false, false, false, false, false, false, false, false, false, false, false, false, false] (by kernel_rfl) rfl rfl ⟨hx208_0, hx208_1, hx209_0, hx209_1⟩ (fun hHeld => ?_); refine with_tabW downpourlaw14_RippleOnce.tab25 downpourlaw14_RippleOnce.bits25 (fun HT_ HW_ => ?_)
                                                  generalize w71.drew = w72 at HO_3 HO_6 BK207 HB hx208_0 hx208_1 hx209_0 hx209_1 hHeld ⊢
                                                  refine pure_ (i := 0) (N := some 98) (v := ?_) (a' := ?_) #[true, false, false, false, false, false, false, false, false, false, false, false, false] rfl rfl (any_of HT_.out (by kernel_rfl)) (fun _ _ _ h => h) (Or.inl ⟨by rfl, ?_⟩) ?_ ?_
                                                  rotate_left
                                                  · intro w'
                                                    go_simp
                                                    with_reducible rfl
                                                  rotate_left
                                                  · simp only [Act.put, List.setIfInBounds_toArray, List.set_cons_zero, List.set_cons_succ, i64_w, i32_w]
                                                    rfl
                                                  refine pure_ (i := 1) (N := some 99) (v := ?_) (a' := ?_) #[true, true, false, false, false, false, false, false, false, false, false, false, false] rfl rfl (any_of HT_.out (by kernel_rfl)) (fun _ _ _ h => h) (Or.inl ⟨by rfl, ?_⟩) ?_ ?_
                                                  rotate_left
                                                  · intro w'
                                                    go_simp
                                                    with_reducible rfl
                                                  rotate_left
                                                  · simp only [Act.put, List.setIfInBounds_toArray, List.set_cons_zero, List.set_cons_succ, i64_w, i32_w]
                                                    rfl
                                                  refine pure_ (i := 2) (N := some 100) (v := ?_) (a' := ?_) #[true, true, true, false, false, false, false, false, false, false, false, false, false] rfl rfl (any_of HT_.out (by kernel_rfl)) (fun _ _ _ h => h) (Or.inl ⟨by rfl, ?_⟩) ?_ ?_
                                                  rotate_left
                                                  · intro w'
                                                    go_simp
                                                    with_reducible rfl
                                                  rotate_left
                                                  · simp only [Act.put, List.setIfInBounds_toArray, List.set_cons_zero, List.set_cons_succ, i64_w, i32_w]
                                                    rfl
                                                  refine pure_ (i := 3) (N := some 101) (v := ?_) (a' := ?_) #[true, true, true, true, false, false, false, false, false, false, false, false, false] rfl rfl (any_of HT_.out (by kernel_rfl)) (fun _ _ _ h => h) (Or.inl ⟨by rfl, ?_⟩) ?_ ?_
                                                  rotate_left
                                                  · intro w'
                                                    go_simp
                                                    with_reducible rfl
                                                  rotate_left
                                                  · simp only [Act.put, List.setIfInBounds_toArray, List.set_cons_zero, List.set_cons_succ, i64_w, i32_w]
                                                    rfl
                                                  refine pure_ (i := 4) (N := some 102) (v := ?_) (a' := ?_) #[true, true, true, true, true, false, false, false, false, false, false, false, false] rfl rfl (any_of HT_.out (by kernel_rfl)) (fun _ _ _ h => h) (Or.inl ⟨by rfl, ?_⟩) ?_ ?_
                                                  rotate_left
                                                  · intro w'
                                                    go_simp
                                                    with_reducible rfl
                                                  rotate_left
                                                  · simp only [Act.put, List.setIfInBounds_toArray, List.set_cons_zero, List.set_cons_succ, i64_w, i32_w]
                                                    rfl
                                                  refine pure_ (i := 5) (N := some 103) (v := ?_) (a' := ?_) #[true, true, true, true, true, true, false, false, false, false, false, false, false] rfl rfl (any_of HT_.out (by kernel_rfl)) (fun _ _ _ h => h) (Or.inl ⟨by rfl, ?_⟩) ?_ ?_
                                                  rotate_left
                                                  · intro w'
                                                    go_simp
                                                    with_reducible rfl
                                                  rotate_left
                                                  · simp only [Act.put, List.setIfInBounds_toArray, List.set_cons_zero, List.set_cons_succ, i64_w, i32_w]
                                                    rfl
                                                  refine pure_ (i := 7) (N := some 105) (v := ?_) (a' := ?_) #[true, true, true, true, true, true, false, true, false, false, false, false, false] rfl rfl (any_of HT_.out (by kernel_rfl)) (fun _ _ _ h => h) (Or.inl ⟨by rfl, ?_⟩) ?_ ?_
                                                  rotate_left
                                                  · intro w'
                                                    go_simp
                                                    with_reducible rfl
                                                  rotate_left
                                                  · simp only [Act.put, List.setIfInBounds_toArray, List.set_cons_zero, List.set_cons_succ, i64_w, i32_w]
                                                    rfl
                                                  refine pure_ (i := 8) (N := some 106) (v := ?_) (a' := ?_) #[true, true, true, true, true, true, false, true, true, false, false, false, false] rfl rfl (any_of HT_.out (by kernel_rfl)) (fun _ _ _ h => h) (Or.inl ⟨by rfl, ?_⟩) ?_ ?_
                                                  rotate_left
                                                  · intro w'
                                                    go_simp
                                                    with_reducible rfl
                                                  rotate_left
                                                  · simp only [Act.put, List.setIfInBounds_toArray, List.set_cons_zero, List.set_cons_succ, i64_w, i32_w]
                                                    rfl
                                                  refine pure_ (i := 9) (N := some 107) (v := ?_) (a' := ?_) #[true, true, true, true, true, true, false, true, true, true, false, false, false] rfl rfl (any_of HT_.out (by kernel_rfl)) (fun _ _ _ h => h) (Or.inl ⟨by rfl, ?_⟩) ?_ ?_
                                                  rotate_left
                                                  · intro w'
                                                    go_simp
                                                    with_reducible rfl
                                                  rotate_left
                                                  · simp only [Act.put, List.setIfInBounds_toArray, List.set_cons_zero, List.set_cons_succ, i64_w, i32_w]
                                                    rfl
                                                  refine take_ (i := 6) (N := some 104) (v := ?_) (a' := ?_) #[true, true, true, true, true, true, true, true, true, true, false, false, false] rfl rfl (take_ofW HT_.out HW_.out (by kernel_rfl)) (fun _ _ _ h => h) (Or.inl ⟨by rfl, ?_⟩) hHeld ?_ ?_
                                                  rotate_left
                                                  · rintro w' ⟨s0, s1, s2, s3⟩
                                                    go_simp
                                                    with_reducible rfl
                                                  rotate_left
                                                  · simp only [Act.put, List.setIfInBounds_toArray, List.set_cons_zero, List.set_cons_succ, i64_w, i32_w]
                                                    rfl
                                                  refine take_ (i := 10) (N := some 108) (v := ?_) (a' := ?_) #[true, true, true, true, true, true, true, true, true, true, true, false, false] rfl rfl (take_ofW HT_.out HW_.out (by kernel_rfl)) (fun _ _ _ h => h) (Or.inl ⟨by rfl, ?_⟩) hHeld ?_ ?_
                                                  rotate_left
                                                  · rintro w' ⟨s0, s1, s2, s3⟩
                                                    go_simp
                                                    with_reducible rfl
                                                  rotate_left
                                                  · simp only [Act.put, List.setIfInBounds_toArray, List.set_cons_zero, List.set_cons_succ, i64_w, i32_w]
                                                    rfl
                                                  refine one_ (i := 11) (N := some 109) #[true, true, true, true, true, true, true, true, true, true, true, true, false] rfl rfl (one_of HT_.out (by kernel_rfl)) (by decide) (fun K hK => ?_)
                                                  refine goes_ Try.func10 (by kernel_rfl) rfl #[.agg #[.int .i64 ((rd_T24 t177 x12_3).f0), .int .u64 ((rd_T24 t177 x12_3).f1)], .agg #[.int .i64 ((rd_T24 t177 x13_3).f0), .int .u64 ((rd_T24 t177 x13_3).f1)]] (by rfl) rfl rfl (by (try simp only [List.map_toArray, List.map_cons, List.map_nil]); first | done | rfl | (simp only [List.length_drop, List.length_take]; rfl)) ?_
                                                  with_reducible refine (ripple_Before.calls ((rd_T24 t177 x12_3).f0) ((rd_T24 t177 x12_3).f1) ((rd_T24 t177 x13_3).f0) ((rd_T24 t177 x13_3).f1) true _ A67.out).mono ?_
                                                  rintro e w73 ⟨rfl, hb⟩
                                                  have HS0_ := (hb.cell (World.block_lt_of_cell? _ _ (hHeld.1))).trans (hHeld.1)
                                                  have HS1_ := (hb.cell (World.block_lt_of_cell? _ _ (hHeld.2.1))).trans (hHeld.2.1)
                                                  have HS2_ := (hb.cell (World.block_lt_of_cell? _ _ (hHeld.2.2.1))).trans (hHeld.2.2.1)
                                                  have HS3_ := (hb.cell (World.block_lt_of_cell? _ _ (hHeld.2.2.2))).trans (hHeld.2.2.2)
                                                  refine ⟨_, rfl, ?_⟩
                                                  have n0_ := Aside0.mk (Kd.R_below (by (with_reducible repeat (first | apply Kd.R_alloc | apply Kd.R_drewN | apply Kd.R_drew)); exact HO_3.out) hb)
                                                  have n1_ := Aside0.mk (Kd.R_below (by (with_reducible repeat (first | apply Kd.R_alloc | apply Kd.R_drewN | apply Kd.R_drew)); exact HO_6.out) hb)
                                                  have n2_ := Aside0.mk (blk_below (g := gb207) (o := .cells #[.bool true, .int .i64 ((rd_T43 y173 x81_3).f1.f0), .int .u64 ((rd_T43 y173 x81_3).f1.f1)] 43 (0, 0)) (by (with_reducible repeat (first | refine blk_drewN ?_ _ | refine blk_drew ?_ | refine blk_alloc ?_ _)); exact BK207.out) hb)
                                                  have n3_ := Aside0.mk (below_step (by repeat (first | (with_reducible first | exact HB.out | apply below_alloc | apply pw_below_drewN | apply below_drew1 | refine below_set ?_ GE207.out) | exact HB.out)) hb)
                                                  clear HO_3
                                                  clear HO_6
                                                  clear BK207
                                                  clear HB
                                                  have HO_3 := n0_
                                                  have HO_6 := n1_
                                                  have BK207 := n2_
                                                  have HB := n3_
                                                  clear n0_ n1_ n2_ n3_
                                                  (try clear hb)
                                                  (try clear hb2)
                                                  (try clear hk)
                                                  (try clear hi)
                                                  refine hK.out _ _ ⟨HS0_, HS1_, HS2_, HS3_⟩ (fun hHeld => ?_)
                                                  clear hK K
                                                  refine norm_ (a' := ?_) ?_ ?_
                                                  rotate_left
                                                  · show Act.put _ (some 109) _ = _
                                                    simp only [Act.put, List.setIfInBounds_toArray, List.set_cons_zero, List.set_cons_succ, i64_w, i32_w]
                                                    rfl
                                                  refine pure_ (i := 12) (N := some 110) (v := ?_) (a' := ?_) #[true, true, true, true, true, true, true, true, true, true, true, true, true] rfl rfl (any_of HT_.out (by kernel_rfl)) (fun _ _ _ h => h) (Or.inl ⟨by rfl, ?_⟩) ?_ ?_
                                                  rotate_left
                                                  · intro w'
                                                    go_simp
                                                    with_reducible rfl
                                                  rotate_left
                                                  · simp only [Act.put, List.setIfInBounds_toArray, List.set_cons_zero, List.set_cons_succ, i64_w, i32_w]
                                                    rfl
                                                  refine done_ (done_of HT_.out (by kernel_rfl)) ?_
                                                  try go_wp2
                                                  go_ret
                                                  exact ⟨by first | rfl | (simp [errW_none, errW_some] <;> rfl) | (simp only [← hji2]; first | rfl | (simp [errW_none, errW_some] <;> rfl)) | (simp [*, errW_none, errW_some] <;> rfl), by repeat (first | (with_reducible first | exact HB.out | apply below_alloc | apply pw_below_drewN | apply below_drew1 | refine below_set ?_ GE207.out) | exact HB.out)⟩
                                                · replace c68 := Bool.eq_false_iff.mpr c68
                                                  subst c68
                                                  have H1 : (downpourlaw14_RippleOnce.l1 k3 t177 x6_1 (wrap64 (x11_3 - 1)) (wrap64 (x12_3 + 1)) x12_3 y173 (y173.length : Int) (wrap64 (x81_3 + 1))) = some r := by rw [if_neg (show ¬ (false = true) by decide)] at H; exact H
                                                  clear H
                                                  have H := H1
                                                  clear H1
                                                  have H' := Aside0.mk H
                                                  clear H
                                                  have p206 : 0 ≤ (x81_3 : Int) := of_decide_eq_true (by first | (with_reducible assumption) | assumption)
                                                  have q206 : x81_3 < (y173.length : Int) := of_decide_eq_true (by first | (with_reducible assumption) | assumption)
                                                  obtain ⟨ad206, e206, hx206_0, hx206_1, hx206_2⟩ := at_T43 HR176.out x81_3 p206 q206
                                                  (try rw [← Nbq54.out] at hx206_0)
                                                  cases e206
                                                  replace hx206_0 := (HB.out.cell (World.block_lt_of_cell? w _ hx206_0)).trans hx206_0
                                                  replace hx206_1 := (HB.out.cell (World.block_lt_of_cell? w _ hx206_1)).trans hx206_1
                                                  replace hx206_2 := (HB.out.cell (World.block_lt_of_cell? w _ hx206_2)).trans hx206_2
                                                  replace p206 := eq_true p206
                                                  replace q206 := eq_true q206
                                                  try go_wp2_with (first | ((with_reducible refine gate_dst (N := 15) rfl ?_); (try (refine gate_guard (by rfl) ?_; dsimp only)); refine box_event ?hg (N := 15) ?hd (cs := #[.bool false, .int .i64 0, .int .u64 0]) (t := 43) ?hr ?_; (case hd => rfl); (case hg => rfl); (case hr => first | (go_simp; done) | (go_simp; rfl)); intro gb207 hg w74 hbox hb; have n0_ := Aside0.mk (Kd.R_below (by (with_reducible repeat (first | apply Kd.R_alloc | apply Kd.R_drewN | apply Kd.R_drew)); exact HO_3.out) hb); have n1_ := Aside0.mk (Kd.R_below (by (with_reducible repeat (first | apply Kd.R_alloc | apply Kd.R_drewN | apply Kd.R_drew)); exact HO_6.out) hb); have n2_ := Aside0.mk (below_step (by repeat (first | (with_reducible first | exact HB.out | apply below_alloc | apply pw_below_drewN | apply below_drew1) | exact HB.out)) hb); have n3_ := Aside0.mk (hbox); have n4_ := Aside0.mk ((by rw [hg]; exact (below_size (by repeat (first | (with_reducible first | exact HB.out | apply below_alloc | apply pw_below_drewN | apply below_drew1) | exact HB.out))) : w.heap.size ≤ gb207)); have n5_ := Aside0.mk ((by rw [hg]; exact (below_size (by repeat (first | (with_reducible first | exact HB.out | apply below_alloc | apply pw_below_drewN | apply below_drew1) | exact HB.out))) : w.heap.size ≤ gb207)); clear HO_3; clear HO_6; clear HB; have HO_3 := n0_; have HO_6 := n1_; have HB := n2_; have BK207 := n3_; have GW207 := n4_; have GE207 := n5_; clear n0_ n1_ n2_ n3_ n4_ n5_; clear hb hbox hg; have hcz75_0 : w74.cell? ⟨gb207, 0, none⟩ = some (.bool false) := (blk_cell BK207.out 0).trans rfl; have hcz75_1 : w74.cell? ⟨gb207, 1, none⟩ = some (.int .i64 0) := (blk_cell BK207.out 1).trans rfl; have hcz75_2 : w74.cell? ⟨gb207, 2, none⟩ = some (.int .u64 0) := (blk_cell BK207.out 2).trans rfl; have hfz75_0 := blk_frozen BK207.out 0; have hfz75_1 := blk_frozen BK207.out 1; have hfz75_2 := blk_frozen BK207.out 2))
                                                  have n0_ : Aside0 (Kd.R k24 24 (((w74.setCell ⟨gb207, 0, none⟩ (.bool true)).setCell ⟨gb207, 1, none⟩ (.int .i64 ((rd_T43 y173 x81_3).f1.f0))).setCell ⟨gb207, 2, none⟩ (.int .u64 ((rd_T43 y173 x81_3).f1.f1))) w.heap.size (fun k_ => some k_ ≠ (u6 : Value).ownBlock) (.slice Ao25 t177.length co25) t177) := ⟨by (with_reducible repeat (first | apply Kd.R_alloc | apply Kd.R_drewN | apply Kd.R_drew)); exact Kd.R_mono (Kd.R_far (p := ⟨gb207, 2, none⟩) (Kd.R_far (p := ⟨gb207, 1, none⟩) (Kd.R_far (p := ⟨gb207, 0, none⟩) (Kd.R_types HO_3.out BK207.out (by decide)) (fun _ hk => hk.2) (.bool true)) (fun _ hk => hk.2) (.int .i64 ((rd_T43 y173 x81_3).f1.f0))) (fun _ hk => hk.2) (.int .u64 ((rd_T43 y173 x81_3).f1.f1))) (fun _ hk => hk.1)⟩
                                                  have n1_ : Aside0 (Kd.R k24 24 (((w74.setCell ⟨gb207, 0, none⟩ (.bool true)).setCell ⟨gb207, 1, none⟩ (.int .i64 ((rd_T43 y173 x81_3).f1.f0))).setCell ⟨gb207, 2, none⟩ (.int .u64 ((rd_T43 y173 x81_3).f1.f1))) w.heap.size (fun k_ => some k_ ≠ (.slice Ao25 t177.length co25 : Value).ownBlock) u6 x6_1) := ⟨by (with_reducible repeat (first | apply Kd.R_alloc | apply Kd.R_drewN | apply Kd.R_drew)); exact Kd.R_mono (Kd.R_far (p := ⟨gb207, 2, none⟩) (Kd.R_far (p := ⟨gb207, 1, none⟩) (Kd.R_far (p := ⟨gb207, 0, none⟩) (Kd.R_types HO_6.out BK207.out (by decide)) (fun _ hk => hk.2) (.bool true)) (fun _ hk => hk.2) (.int .i64 ((rd_T43 y173 x81_3).f1.f0))) (fun _ hk => hk.2) (.int .u64 ((rd_T43 y173 x81_3).f1.f1))) (fun _ hk => hk.1)⟩
                                                  have n2_ : Aside0 ((((w74.setCell ⟨gb207, 0, none⟩ (.bool true)).setCell ⟨gb207, 1, none⟩ (.int .i64 ((rd_T43 y173 x81_3).f1.f0))).setCell ⟨gb207, 2, none⟩ (.int .u64 ((rd_T43 y173 x81_3).f1.f1))).heap[gb207]? = some (.cells #[.bool true, .int .i64 ((rd_T43 y173 x81_3).f1.f0), .int .u64 ((rd_T43 y173 x81_3).f1.f1)] 43 (0, 0))) := ⟨by (with_reducible repeat (first | refine blk_drewN ?_ _ | refine blk_drew ?_ | refine blk_alloc ?_ _)); refine blk_put (cs := #[.bool true, .int .i64 ((rd_T43 y173 x81_3).f1.f0), .int .u64 0]) ?_ 2 _ rfl; (with_reducible repeat (first | refine blk_drewN ?_ _ | refine blk_drew ?_ | refine blk_alloc ?_ _)); refine blk_put (cs := #[.bool true, .int .i64 0, .int .u64 0]) ?_ 1 _ rfl; (with_reducible repeat (first | refine blk_drewN ?_ _ | refine blk_drew ?_ | refine blk_alloc ?_ _)); refine blk_put (cs := #[.bool false, .int .i64 0, .int .u64 0]) ?_ 0 _ rfl; (with_reducible repeat (first | refine blk_drewN ?_ _ | refine blk_drew ?_ | refine blk_alloc ?_ _)); exact BK207.out⟩
                                                  have n3_ : Aside0 (Below w.heap.size w (((w74.setCell ⟨gb207, 0, none⟩ (.bool true)).setCell ⟨gb207, 1, none⟩ (.int .i64 ((rd_T43 y173 x81_3).f1.f0))).setCell ⟨gb207, 2, none⟩ (.int .u64 ((rd_T43 y173 x81_3).f1.f1)))) := ⟨by repeat (first | (with_reducible first | exact HB.out | apply below_alloc | apply pw_below_drewN | apply below_drew1 | refine below_set ?_ GE207.out) | exact HB.out)⟩
                                                  (try clear HO_3)
                                                  (try clear HO_6)
                                                  (try clear BK207)
                                                  (try clear HB)
                                                  generalize (((w74.setCell ⟨gb207, 0, none⟩ (.bool true)).setCell ⟨gb207, 1, none⟩ (.int .i64 ((rd_T43 y173 x81_3).f1.f0))).setCell ⟨gb207, 2, none⟩ (.int .u64 ((rd_T43 y173 x81_3).f1.f1))) = w76 at n0_ n1_ n2_ n3_ ⊢
                                                  have HO_3 := n0_
                                                  have HO_6 := n1_
                                                  have BK207 := n2_
                                                  have HB := n3_
                                                  clear n0_ n1_ n2_ n3_
                                                  have n0_ := Aside0.mk (Kd.R_drew HO_3.out)
                                                  have n1_ := Aside0.mk (Kd.R_drew HO_6.out)
                                                  have n2_ := Aside0.mk (blk_drew BK207.out)
                                                  have n3_ := Aside0.mk (below_drew1 HB.out)
                                                  clear HO_3
                                                  clear HO_6
                                                  clear BK207
                                                  clear HB
                                                  have HO_3 := n0_
                                                  have HO_6 := n1_
                                                  have BK207 := n2_
                                                  have HB := n3_
                                                  clear n0_ n1_ n2_ n3_
                                                  have p208 : 0 ≤ (x12_3 : Int) := of_decide_eq_true (by first | (with_reducible assumption) | assumption)
                                                  have q208 : x12_3 < (t177.length : Int) := of_decide_eq_true (by first | (with_reducible assumption) | assumption)
                                                  obtain ⟨ad208, e208, hx208_0, hx208_1⟩ := at_T24 (Kd.R_reads' HO_3.out).2.2 x12_3 p208 q208
                                                  cases e208
                                                  replace p208 := eq_true p208
                                                  replace q208 := eq_true q208
                                                  have p209 : 0 ≤ (x13_3 : Int) := of_decide_eq_true (by first | (with_reducible assumption) | assumption)
                                                  have q209 : x13_3 < (t177.length : Int) := of_decide_eq_true (by first | (with_reducible assumption) | assumption)
                                                  obtain ⟨ad209, e209, hx209_0, hx209_1⟩ := at_T24 (Kd.R_reads' HO_3.out).2.2 x13_3 p209 q209
                                                  obtain rfl : ad208 = ad209 := (by injection e209)
                                                  replace p209 := eq_true p209
                                                  replace q209 := eq_true q209
                                                  refine start_ (n := 13) (S := fun w' => w'.cell? (ad208.add ((x12_3).toNat * 2)) = some (.int .i64 ((rd_T24 t177 x12_3).f0)) ∧ w'.cell? ⟨(ad208.add ((x12_3).toNat * 2)).block, (ad208.add ((x12_3).toNat * 2)).off + 1, none⟩ = some (.int .u64 ((rd_T24 t177 x12_3).f1)) ∧ w'.cell? (ad208.add ((x13_3).toNat * 2)) = some (.int .i64 ((rd_T24 t177 x13_3).f0)) ∧ w'.cell? ⟨(ad208.add ((x13_3).toNat * 2)).block, (ad208.add ((x13_3).toNat * 2)).off + 1, none⟩ = some (.int .u64 ((rd_T24 t177 x13_3).f1))) (ds := []) #[false, false, false, false, false, false, false, false, false, false, false, false, false] (by kernel_rfl) rfl rfl ⟨hx208_0, hx208_1, hx209_0, hx209_1⟩ (fun hHeld => ?_); refine with_tabW downpourlaw14_RippleOnce.tab25 downpourlaw14_RippleOnce.bits25 (fun HT_ HW_ => ?_)
                                                  generalize w76.drew = w77 at HO_3 HO_6 BK207 HB hx208_0 hx208_1 hx209_0 hx209_1 hHeld ⊢
                                                  refine pure_ (i := 0) (N := some 98) (v := ?_) (a' := ?_) #[true, false, false, false, false, false, false, false, false, false, false, false, false] rfl rfl (any_of HT_.out (by kernel_rfl)) (fun _ _ _ h => h) (Or.inl ⟨by rfl, ?_⟩) ?_ ?_
                                                  rotate_left
                                                  · intro w'
                                                    go_simp
                                                    with_reducible rfl
                                                  rotate_left
                                                  · simp only [Act.put, List.setIfInBounds_toArray, List.set_cons_zero, List.set_cons_succ, i64_w, i32_w]
                                                    rfl
                                                  refine pure_ (i := 1) (N := some 99) (v := ?_) (a' := ?_) #[true, true, false, false, false, false, false, false, false, false, false, false, false] rfl rfl (any_of HT_.out (by kernel_rfl)) (fun _ _ _ h => h) (Or.inl ⟨by rfl, ?_⟩) ?_ ?_
                                                  rotate_left
                                                  · intro w'
                                                    go_simp
                                                    with_reducible rfl
                                                  rotate_left
                                                  · simp only [Act.put, List.setIfInBounds_toArray, List.set_cons_zero, List.set_cons_succ, i64_w, i32_w]
                                                    rfl
                                                  refine pure_ (i := 2) (N := some 100) (v := ?_) (a' := ?_) #[true, true, true, false, false, false, false, false, false, false, false, false, false] rfl rfl (any_of HT_.out (by kernel_rfl)) (fun _ _ _ h => h) (Or.inl ⟨by rfl, ?_⟩) ?_ ?_
                                                  rotate_left
                                                  · intro w'
                                                    go_simp
                                                    with_reducible rfl
                                                  rotate_left
                                                  · simp only [Act.put, List.setIfInBounds_toArray, List.set_cons_zero, List.set_cons_succ, i64_w, i32_w]
                                                    rfl
                                                  refine pure_ (i := 3) (N := some 101) (v := ?_) (a' := ?_) #[true, true, true, true, false, false, false, false, false, false, false, false, false] rfl rfl (any_of HT_.out (by kernel_rfl)) (fun _ _ _ h => h) (Or.inl ⟨by rfl, ?_⟩) ?_ ?_
                                                  rotate_left
                                                  · intro w'
                                                    go_simp
                                                    with_reducible rfl
                                                  rotate_left
                                                  · simp only [Act.put, List.setIfInBounds_toArray, List.set_cons_zero, List.set_cons_succ, i64_w, i32_w]
                                                    rfl
                                                  refine pure_ (i := 4) (N := some 102) (v := ?_) (a' := ?_) #[true, true, true, true, true, false, false, false, false, false, false, false, false] rfl rfl (any_of HT_.out (by kernel_rfl)) (fun _ _ _ h => h) (Or.inl ⟨by rfl, ?_⟩) ?_ ?_
                                                  rotate_left
                                                  · intro w'
                                                    go_simp
                                                    with_reducible rfl
                                                  rotate_left
                                                  · simp only [Act.put, List.setIfInBounds_toArray, List.set_cons_zero, List.set_cons_succ, i64_w, i32_w]
                                                    rfl
                                                  refine pure_ (i := 5) (N := some 103) (v := ?_) (a' := ?_) #[true, true, true, true, true, true, false, false, false, false, false, false, false] rfl rfl (any_of HT_.out (by kernel_rfl)) (fun _ _ _ h => h) (Or.inl ⟨by rfl, ?_⟩) ?_ ?_
                                                  rotate_left
                                                  · intro w'
                                                    go_simp
                                                    with_reducible rfl
                                                  rotate_left
                                                  · simp only [Act.put, List.setIfInBounds_toArray, List.set_cons_zero, List.set_cons_succ, i64_w, i32_w]
                                                    rfl
                                                  refine pure_ (i := 7) (N := some 105) (v := ?_) (a' := ?_) #[true, true, true, true, true, true, false, true, false, false, false, false, false] rfl rfl (any_of HT_.out (by kernel_rfl)) (fun _ _ _ h => h) (Or.inl ⟨by rfl, ?_⟩) ?_ ?_
                                                  rotate_left
                                                  · intro w'
                                                    go_simp
                                                    with_reducible rfl
                                                  rotate_left
                                                  · simp only [Act.put, List.setIfInBounds_toArray, List.set_cons_zero, List.set_cons_succ, i64_w, i32_w]
                                                    rfl
                                                  refine pure_ (i := 8) (N := some 106) (v := ?_) (a' := ?_) #[true, true, true, true, true, true, false, true, true, false, false, false, false] rfl rfl (any_of HT_.out (by kernel_rfl)) (fun _ _ _ h => h) (Or.inl ⟨by rfl, ?_⟩) ?_ ?_
                                                  rotate_left
                                                  · intro w'
                                                    go_simp
                                                    with_reducible rfl
                                                  rotate_left
                                                  · simp only [Act.put, List.setIfInBounds_toArray, List.set_cons_zero, List.set_cons_succ, i64_w, i32_w]
                                                    rfl
                                                  refine pure_ (i := 9) (N := some 107) (v := ?_) (a' := ?_) #[true, true, true, true, true, true, false, true, true, true, false, false, false] rfl rfl (any_of HT_.out (by kernel_rfl)) (fun _ _ _ h => h) (Or.inl ⟨by rfl, ?_⟩) ?_ ?_
                                                  rotate_left
                                                  · intro w'
                                                    go_simp
                                                    with_reducible rfl
                                                  rotate_left
                                                  · simp only [Act.put, List.setIfInBounds_toArray, List.set_cons_zero, List.set_cons_succ, i64_w, i32_w]
                                                    rfl
                                                  refine take_ (i := 6) (N := some 104) (v := ?_) (a' := ?_) #[true, true, true, true, true, true, true, true, true, true, false, false, false] rfl rfl (take_ofW HT_.out HW_.out (by kernel_rfl)) (fun _ _ _ h => h) (Or.inl ⟨by rfl, ?_⟩) hHeld ?_ ?_
                                                  rotate_left
                                                  · rintro w' ⟨s0, s1, s2, s3⟩
                                                    go_simp
                                                    with_reducible rfl
                                                  rotate_left
                                                  · simp only [Act.put, List.setIfInBounds_toArray, List.set_cons_zero, List.set_cons_succ, i64_w, i32_w]
                                                    rfl
                                                  refine take_ (i := 10) (N := some 108) (v := ?_) (a' := ?_) #[true, true, true, true, true, true, true, true, true, true, true, false, false] rfl rfl (take_ofW HT_.out HW_.out (by kernel_rfl)) (fun _ _ _ h => h) (Or.inl ⟨by rfl, ?_⟩) hHeld ?_ ?_
                                                  rotate_left
                                                  · rintro w' ⟨s0, s1, s2, s3⟩
                                                    go_simp
                                                    with_reducible rfl
                                                  rotate_left
                                                  · simp only [Act.put, List.setIfInBounds_toArray, List.set_cons_zero, List.set_cons_succ, i64_w, i32_w]
                                                    rfl
                                                  refine one_ (i := 11) (N := some 109) #[true, true, true, true, true, true, true, true, true, true, true, true, false] rfl rfl (one_of HT_.out (by kernel_rfl)) (by decide) (fun K hK => ?_)
                                                  refine goes_ Try.func10 (by kernel_rfl) rfl #[.agg #[.int .i64 ((rd_T24 t177 x12_3).f0), .int .u64 ((rd_T24 t177 x12_3).f1)], .agg #[.int .i64 ((rd_T24 t177 x13_3).f0), .int .u64 ((rd_T24 t177 x13_3).f1)]] (by rfl) rfl rfl (by (try simp only [List.map_toArray, List.map_cons, List.map_nil]); first | done | rfl | (simp only [List.length_drop, List.length_take]; rfl)) ?_
                                                  with_reducible refine (ripple_Before.calls ((rd_T24 t177 x12_3).f0) ((rd_T24 t177 x12_3).f1) ((rd_T24 t177 x13_3).f0) ((rd_T24 t177 x13_3).f1) false _ A67.out).mono ?_
                                                  rintro e w78 ⟨rfl, hb⟩
                                                  have HS0_ := (hb.cell (World.block_lt_of_cell? _ _ (hHeld.1))).trans (hHeld.1)
                                                  have HS1_ := (hb.cell (World.block_lt_of_cell? _ _ (hHeld.2.1))).trans (hHeld.2.1)
                                                  have HS2_ := (hb.cell (World.block_lt_of_cell? _ _ (hHeld.2.2.1))).trans (hHeld.2.2.1)
                                                  have HS3_ := (hb.cell (World.block_lt_of_cell? _ _ (hHeld.2.2.2))).trans (hHeld.2.2.2)
                                                  refine ⟨_, rfl, ?_⟩
                                                  have n0_ := Aside0.mk (Kd.R_below (by (with_reducible repeat (first | apply Kd.R_alloc | apply Kd.R_drewN | apply Kd.R_drew)); exact HO_3.out) hb)
                                                  have n1_ := Aside0.mk (Kd.R_below (by (with_reducible repeat (first | apply Kd.R_alloc | apply Kd.R_drewN | apply Kd.R_drew)); exact HO_6.out) hb)
                                                  have n2_ := Aside0.mk (blk_below (g := gb207) (o := .cells #[.bool true, .int .i64 ((rd_T43 y173 x81_3).f1.f0), .int .u64 ((rd_T43 y173 x81_3).f1.f1)] 43 (0, 0)) (by (with_reducible repeat (first | refine blk_drewN ?_ _ | refine blk_drew ?_ | refine blk_alloc ?_ _)); exact BK207.out) hb)
                                                  have n3_ := Aside0.mk (below_step (by repeat (first | (with_reducible first | exact HB.out | apply below_alloc | apply pw_below_drewN | apply below_drew1 | refine below_set ?_ GE207.out) | exact HB.out)) hb)
                                                  clear HO_3
                                                  clear HO_6
                                                  clear BK207
                                                  clear HB
                                                  have HO_3 := n0_
                                                  have HO_6 := n1_
                                                  have BK207 := n2_
                                                  have HB := n3_
                                                  clear n0_ n1_ n2_ n3_
                                                  (try clear hb)
                                                  (try clear hb2)
                                                  (try clear hk)
                                                  (try clear hi)
                                                  refine hK.out _ _ ⟨HS0_, HS1_, HS2_, HS3_⟩ (fun hHeld => ?_)
                                                  clear hK K
                                                  refine norm_ (a' := ?_) ?_ ?_
                                                  rotate_left
                                                  · show Act.put _ (some 109) _ = _
                                                    simp only [Act.put, List.setIfInBounds_toArray, List.set_cons_zero, List.set_cons_succ, i64_w, i32_w]
                                                    rfl
                                                  refine pure_ (i := 12) (N := some 110) (v := ?_) (a' := ?_) #[true, true, true, true, true, true, true, true, true, true, true, true, true] rfl rfl (any_of HT_.out (by kernel_rfl)) (fun _ _ _ h => h) (Or.inl ⟨by rfl, ?_⟩) ?_ ?_
                                                  rotate_left
                                                  · intro w'
                                                    go_simp
                                                    with_reducible rfl
                                                  rotate_left
                                                  · simp only [Act.put, List.setIfInBounds_toArray, List.set_cons_zero, List.set_cons_succ, i64_w, i32_w]
                                                    rfl
                                                  refine done_ (done_of HT_.out (by kernel_rfl)) ?_
                                                  try go_wp2
                                                  go_roundg k3
                                                  case measure => have := HK1.out; have := HJ20.out; have := HK3.out; omega
                                                  case rel => exact ⟨(wrap64 (x11_3 - 1)), (wrap64 (x12_3 + 1)), (x12_3), (wrap64 (x81_3 + 1)), (by first | rfl | (simp; done) | (simp [*]; done)), (by first | rfl | (simp; done) | (simp [*]; done)), (by first | rfl | (simp; done) | (simp [*]; done)), (by first | rfl | (simp; done) | (simp [*]; done)), H', ⟨by have := HK1.out; have := HJ20.out; have := HK3.out; omega⟩, ⟨by (with_reducible repeat (first | apply Kd.R_alloc | apply Kd.R_drewN | apply Kd.R_drew)); exact HO_3.out⟩, ⟨by (with_reducible repeat (first | apply Kd.R_alloc | apply Kd.R_drewN | apply Kd.R_drew)); exact HO_6.out⟩, ⟨by repeat (first | (with_reducible first | exact HB.out | apply below_alloc | apply pw_below_drewN | apply below_drew1 | refine below_set ?_ GE207.out) | exact HB.out)⟩⟩
                                              · rw [if_neg c66] at H
                                                exact absurd H (by simp)
                                            · rw [if_neg c65] at H
                                              exact absurd H (by simp)
                                          · rw [if_neg c64] at H
                                            exact absurd H (by simp)
                                        · rw [if_neg c63] at H
                                          exact absurd H (by simp)
                                      · rw [if_neg c62] at H
                                        have c62b0 : decide (0 ≤ x13_3) = false := decide_eq_false c62
                                        clear c62
                                        have H' := Aside0.mk H
                                        clear H
                                        have p206 : 0 ≤ (x81_3 : Int) := of_decide_eq_true (by first | (with_reducible assumption) | assumption)
                                        have q206 : x81_3 < (y173.length : Int) := of_decide_eq_true (by first | (with_reducible assumption) | assumption)
                                        obtain ⟨ad206, e206, hx206_0, hx206_1, hx206_2⟩ := at_T43 HR176.out x81_3 p206 q206
                                        (try rw [← Nbq54.out] at hx206_0)
                                        cases e206
                                        replace hx206_0 := (HB.out.cell (World.block_lt_of_cell? w _ hx206_0)).trans hx206_0
                                        replace hx206_1 := (HB.out.cell (World.block_lt_of_cell? w _ hx206_1)).trans hx206_1
                                        replace hx206_2 := (HB.out.cell (World.block_lt_of_cell? w _ hx206_2)).trans hx206_2
                                        replace p206 := eq_true p206
                                        replace q206 := eq_true q206
                                        try go_wp2_with (first | ((with_reducible refine gate_dst (N := 15) rfl ?_); (try (refine gate_guard (by rfl) ?_; dsimp only)); refine box_event ?hg (N := 15) ?hd (cs := #[.bool false, .int .i64 0, .int .u64 0]) (t := 43) ?hr ?_; (case hd => rfl); (case hg => rfl); (case hr => first | (go_simp; done) | (go_simp; rfl)); intro gb207 hg w79 hbox hb; have n0_ := Aside0.mk (Kd.R_below (by (with_reducible repeat (first | apply Kd.R_alloc | apply Kd.R_drewN | apply Kd.R_drew)); exact HO_3.out) hb); have n1_ := Aside0.mk (Kd.R_below (by (with_reducible repeat (first | apply Kd.R_alloc | apply Kd.R_drewN | apply Kd.R_drew)); exact HO_6.out) hb); have n2_ := Aside0.mk (below_step (by repeat (first | (with_reducible first | exact HB.out | apply below_alloc | apply pw_below_drewN | apply below_drew1) | exact HB.out)) hb); have n3_ := Aside0.mk (hbox); have n4_ := Aside0.mk ((by rw [hg]; exact (below_size (by repeat (first | (with_reducible first | exact HB.out | apply below_alloc | apply pw_below_drewN | apply below_drew1) | exact HB.out))) : w.heap.size ≤ gb207)); have n5_ := Aside0.mk ((by rw [hg]; exact (below_size (by repeat (first | (with_reducible first | exact HB.out | apply below_alloc | apply pw_below_drewN | apply below_drew1) | exact HB.out))) : w.heap.size ≤ gb207)); clear HO_3; clear HO_6; clear HB; have HO_3 := n0_; have HO_6 := n1_; have HB := n2_; have BK207 := n3_; have GW207 := n4_; have GE207 := n5_; clear n0_ n1_ n2_ n3_ n4_ n5_; clear hb hbox hg; have hcz80_0 : w79.cell? ⟨gb207, 0, none⟩ = some (.bool false) := (blk_cell BK207.out 0).trans rfl; have hcz80_1 : w79.cell? ⟨gb207, 1, none⟩ = some (.int .i64 0) := (blk_cell BK207.out 1).trans rfl; have hcz80_2 : w79.cell? ⟨gb207, 2, none⟩ = some (.int .u64 0) := (blk_cell BK207.out 2).trans rfl; have hfz80_0 := blk_frozen BK207.out 0; have hfz80_1 := blk_frozen BK207.out 1; have hfz80_2 := blk_frozen BK207.out 2))
                                        have n0_ : Aside0 (Kd.R k24 24 (((w79.setCell ⟨gb207, 0, none⟩ (.bool true)).setCell ⟨gb207, 1, none⟩ (.int .i64 ((rd_T43 y173 x81_3).f1.f0))).setCell ⟨gb207, 2, none⟩ (.int .u64 ((rd_T43 y173 x81_3).f1.f1))) w.heap.size (fun k_ => some k_ ≠ (u6 : Value).ownBlock) (.slice Ao25 t177.length co25) t177) := ⟨by (with_reducible repeat (first | apply Kd.R_alloc | apply Kd.R_drewN | apply Kd.R_drew)); exact Kd.R_mono (Kd.R_far (p := ⟨gb207, 2, none⟩) (Kd.R_far (p := ⟨gb207, 1, none⟩) (Kd.R_far (p := ⟨gb207, 0, none⟩) (Kd.R_types HO_3.out BK207.out (by decide)) (fun _ hk => hk.2) (.bool true)) (fun _ hk => hk.2) (.int .i64 ((rd_T43 y173 x81_3).f1.f0))) (fun _ hk => hk.2) (.int .u64 ((rd_T43 y173 x81_3).f1.f1))) (fun _ hk => hk.1)⟩
                                        have n1_ : Aside0 (Kd.R k24 24 (((w79.setCell ⟨gb207, 0, none⟩ (.bool true)).setCell ⟨gb207, 1, none⟩ (.int .i64 ((rd_T43 y173 x81_3).f1.f0))).setCell ⟨gb207, 2, none⟩ (.int .u64 ((rd_T43 y173 x81_3).f1.f1))) w.heap.size (fun k_ => some k_ ≠ (.slice Ao25 t177.length co25 : Value).ownBlock) u6 x6_1) := ⟨by (with_reducible repeat (first | apply Kd.R_alloc | apply Kd.R_drewN | apply Kd.R_drew)); exact Kd.R_mono (Kd.R_far (p := ⟨gb207, 2, none⟩) (Kd.R_far (p := ⟨gb207, 1, none⟩) (Kd.R_far (p := ⟨gb207, 0, none⟩) (Kd.R_types HO_6.out BK207.out (by decide)) (fun _ hk => hk.2) (.bool true)) (fun _ hk => hk.2) (.int .i64 ((rd_T43 y173 x81_3).f1.f0))) (fun _ hk => hk.2) (.int .u64 ((rd_T43 y173 x81_3).f1.f1))) (fun _ hk => hk.1)⟩
                                        have n2_ : Aside0 ((((w79.setCell ⟨gb207, 0, none⟩ (.bool true)).setCell ⟨gb207, 1, none⟩ (.int .i64 ((rd_T43 y173 x81_3).f1.f0))).setCell ⟨gb207, 2, none⟩ (.int .u64 ((rd_T43 y173 x81_3).f1.f1))).heap[gb207]? = some (.cells #[.bool true, .int .i64 ((rd_T43 y173 x81_3).f1.f0), .int .u64 ((rd_T43 y173 x81_3).f1.f1)] 43 (0, 0))) := ⟨by (with_reducible repeat (first | refine blk_drewN ?_ _ | refine blk_drew ?_ | refine blk_alloc ?_ _)); refine blk_put (cs := #[.bool true, .int .i64 ((rd_T43 y173 x81_3).f1.f0), .int .u64 0]) ?_ 2 _ rfl; (with_reducible repeat (first | refine blk_drewN ?_ _ | refine blk_drew ?_ | refine blk_alloc ?_ _)); refine blk_put (cs := #[.bool true, .int .i64 0, .int .u64 0]) ?_ 1 _ rfl; (with_reducible repeat (first | refine blk_drewN ?_ _ | refine blk_drew ?_ | refine blk_alloc ?_ _)); refine blk_put (cs := #[.bool false, .int .i64 0, .int .u64 0]) ?_ 0 _ rfl; (with_reducible repeat (first | refine blk_drewN ?_ _ | refine blk_drew ?_ | refine blk_alloc ?_ _)); exact BK207.out⟩
                                        have n3_ : Aside0 (Below w.heap.size w (((w79.setCell ⟨gb207, 0, none⟩ (.bool true)).setCell ⟨gb207, 1, none⟩ (.int .i64 ((rd_T43 y173 x81_3).f1.f0))).setCell ⟨gb207, 2, none⟩ (.int .u64 ((rd_T43 y173 x81_3).f1.f1)))) := ⟨by repeat (first | (with_reducible first | exact HB.out | apply below_alloc | apply pw_below_drewN | apply below_drew1 | refine below_set ?_ GE207.out) | exact HB.out)⟩
                                        (try clear HO_3)
                                        (try clear HO_6)
                                        (try clear BK207)
                                        (try clear HB)
                                        generalize (((w79.setCell ⟨gb207, 0, none⟩ (.bool true)).setCell ⟨gb207, 1, none⟩ (.int .i64 ((rd_T43 y173 x81_3).f1.f0))).setCell ⟨gb207, 2, none⟩ (.int .u64 ((rd_T43 y173 x81_3).f1.f1))) = w81 at n0_ n1_ n2_ n3_ ⊢
                                        have HO_3 := n0_
                                        have HO_6 := n1_
                                        have BK207 := n2_
                                        have HB := n3_
                                        clear n0_ n1_ n2_ n3_
                                        have n0_ := Aside0.mk (Kd.R_drew HO_3.out)
                                        have n1_ := Aside0.mk (Kd.R_drew HO_6.out)
                                        have n2_ := Aside0.mk (blk_drew BK207.out)
                                        have n3_ := Aside0.mk (below_drew1 HB.out)
                                        clear HO_3
                                        clear HO_6
                                        clear BK207
                                        clear HB
                                        have HO_3 := n0_
                                        have HO_6 := n1_
                                        have BK207 := n2_
                                        have HB := n3_
                                        clear n0_ n1_ n2_ n3_
                                        refine start_ (n := 13) (S := fun w' => True) (ds := []) #[false, false, false, false, false, false, false, false, false, false, false, false, false] (by kernel_rfl) rfl rfl trivial (fun hHeld => ?_); refine with_tabW downpourlaw14_RippleOnce.tab25 downpourlaw14_RippleOnce.bits25 (fun HT_ HW_ => ?_)
                                        generalize w81.drew = w82 at HO_3 HO_6 BK207 HB hHeld ⊢
                                        refine pure_ (i := 0) (N := some 98) (v := ?_) (a' := ?_) #[true, false, false, false, false, false, false, false, false, false, false, false, false] rfl rfl (any_of HT_.out (by kernel_rfl)) (fun _ _ _ h => h) (Or.inl ⟨by rfl, ?_⟩) ?_ ?_
                                        rotate_left
                                        · intro w'
                                          go_simp
                                          with_reducible rfl
                                        rotate_left
                                        · simp only [Act.put, List.setIfInBounds_toArray, List.set_cons_zero, List.set_cons_succ, i64_w, i32_w]
                                          rfl
                                        refine pure_ (i := 1) (N := some 99) (v := ?_) (a' := ?_) #[true, true, false, false, false, false, false, false, false, false, false, false, false] rfl rfl (any_of HT_.out (by kernel_rfl)) (fun _ _ _ h => h) (Or.inl ⟨by rfl, ?_⟩) ?_ ?_
                                        rotate_left
                                        · intro w'
                                          go_simp
                                          with_reducible rfl
                                        rotate_left
                                        · simp only [Act.put, List.setIfInBounds_toArray, List.set_cons_zero, List.set_cons_succ, i64_w, i32_w]
                                          rfl
                                        refine pure_ (i := 2) (N := some 100) (v := ?_) (a' := ?_) #[true, true, true, false, false, false, false, false, false, false, false, false, false] rfl rfl (any_of HT_.out (by kernel_rfl)) (fun _ _ _ h => h) (Or.inl ⟨by rfl, ?_⟩) ?_ ?_
                                        rotate_left
                                        · intro w'
                                          go_simp
                                          with_reducible rfl
                                        rotate_left
                                        · simp only [Act.put, List.setIfInBounds_toArray, List.set_cons_zero, List.set_cons_succ, i64_w, i32_w]
                                          rfl
                                        refine pure_ (i := 3) (N := some 101) (v := undef) (a' := ?_) #[true, true, true, true, false, false, false, false, false, false, false, false, false] rfl rfl (any_of HT_.out (by kernel_rfl)) (fun _ _ _ h => h) (Or.inr ⟨by rfl, rfl⟩) ?_ ?_
                                        rotate_left
                                        · simp only [Act.put, List.setIfInBounds_toArray, List.set_cons_zero, List.set_cons_succ, i64_w, i32_w]
                                          rfl
                                        refine pure_ (i := 4) (N := some 102) (v := undef) (a' := ?_) #[true, true, true, true, true, false, false, false, false, false, false, false, false] rfl rfl (any_of HT_.out (by kernel_rfl)) (fun _ _ _ h => h) (Or.inr ⟨by rfl, rfl⟩) ?_ ?_
                                        rotate_left
                                        · simp only [Act.put, List.setIfInBounds_toArray, List.set_cons_zero, List.set_cons_succ, i64_w, i32_w]
                                          rfl
                                        refine pure_ (i := 5) (N := some 103) (v := undef) (a' := ?_) #[true, true, true, true, true, true, false, false, false, false, false, false, false] rfl rfl (any_of HT_.out (by kernel_rfl)) (fun _ _ _ h => h) (Or.inr ⟨by rfl, rfl⟩) ?_ ?_
                                        rotate_left
                                        · simp only [Act.put, List.setIfInBounds_toArray, List.set_cons_zero, List.set_cons_succ, i64_w, i32_w]
                                          rfl
                                        refine pure_ (i := 6) (N := some 104) (v := undef) (a' := ?_) #[true, true, true, true, true, true, true, false, false, false, false, false, false] rfl rfl (any_of HT_.out (by kernel_rfl)) (fun _ _ _ h => h) (Or.inr ⟨by rfl, rfl⟩) ?_ ?_
                                        rotate_left
                                        · simp only [Act.put, List.setIfInBounds_toArray, List.set_cons_zero, List.set_cons_succ, i64_w, i32_w]
                                          rfl
                                        refine pure_ (i := 7) (N := some 105) (v := undef) (a' := ?_) #[true, true, true, true, true, true, true, true, false, false, false, false, false] rfl rfl (any_of HT_.out (by kernel_rfl)) (fun _ _ _ h => h) (Or.inr ⟨by rfl, rfl⟩) ?_ ?_
                                        rotate_left
                                        · simp only [Act.put, List.setIfInBounds_toArray, List.set_cons_zero, List.set_cons_succ, i64_w, i32_w]
                                          rfl
                                        refine pure_ (i := 8) (N := some 106) (v := undef) (a' := ?_) #[true, true, true, true, true, true, true, true, true, false, false, false, false] rfl rfl (any_of HT_.out (by kernel_rfl)) (fun _ _ _ h => h) (Or.inr ⟨by rfl, rfl⟩) ?_ ?_
                                        rotate_left
                                        · simp only [Act.put, List.setIfInBounds_toArray, List.set_cons_zero, List.set_cons_succ, i64_w, i32_w]
                                          rfl
                                        refine pure_ (i := 9) (N := some 107) (v := undef) (a' := ?_) #[true, true, true, true, true, true, true, true, true, true, false, false, false] rfl rfl (any_of HT_.out (by kernel_rfl)) (fun _ _ _ h => h) (Or.inr ⟨by rfl, rfl⟩) ?_ ?_
                                        rotate_left
                                        · simp only [Act.put, List.setIfInBounds_toArray, List.set_cons_zero, List.set_cons_succ, i64_w, i32_w]
                                          rfl
                                        refine pure_ (i := 10) (N := some 108) (v := undef) (a' := ?_) #[true, true, true, true, true, true, true, true, true, true, true, false, false] rfl rfl (any_of HT_.out (by kernel_rfl)) (fun _ _ _ h => h) (Or.inr ⟨by rfl, rfl⟩) ?_ ?_
                                        rotate_left
                                        · simp only [Act.put, List.setIfInBounds_toArray, List.set_cons_zero, List.set_cons_succ, i64_w, i32_w]
                                          rfl
                                        refine pure_ (i := 11) (N := some 109) (v := undef) (a' := ?_) #[true, true, true, true, true, true, true, true, true, true, true, true, false] rfl rfl (any_of HT_.out (by kernel_rfl)) (fun _ _ _ h => h) (Or.inr ⟨by rfl, rfl⟩) ?_ ?_
                                        rotate_left
                                        · simp only [Act.put, List.setIfInBounds_toArray, List.set_cons_zero, List.set_cons_succ, i64_w, i32_w]
                                          rfl
                                        refine pure_ (i := 12) (N := some 110) (v := ?_) (a' := ?_) #[true, true, true, true, true, true, true, true, true, true, true, true, true] rfl rfl (any_of HT_.out (by kernel_rfl)) (fun _ _ _ h => h) (Or.inl ⟨by rfl, ?_⟩) ?_ ?_
                                        rotate_left
                                        · intro w'
                                          go_simp
                                          with_reducible rfl
                                        rotate_left
                                        · simp only [Act.put, List.setIfInBounds_toArray, List.set_cons_zero, List.set_cons_succ, i64_w, i32_w]
                                          rfl
                                        refine done_ (done_of HT_.out (by kernel_rfl)) ?_
                                        try go_wp2
                                        go_roundg k3
                                        case measure => have := HK1.out; have := HJ20.out; have := HK3.out; omega
                                        case rel => exact ⟨(wrap64 (x11_3 - 1)), (wrap64 (x12_3 + 1)), (x12_3), (wrap64 (x81_3 + 1)), (by first | rfl | (simp; done) | (simp [*]; done)), (by first | rfl | (simp; done) | (simp [*]; done)), (by first | rfl | (simp; done) | (simp [*]; done)), (by first | rfl | (simp; done) | (simp [*]; done)), H', ⟨by have := HK1.out; have := HJ20.out; have := HK3.out; omega⟩, ⟨by (with_reducible repeat (first | apply Kd.R_alloc | apply Kd.R_drewN | apply Kd.R_drew)); exact HO_3.out⟩, ⟨by (with_reducible repeat (first | apply Kd.R_alloc | apply Kd.R_drewN | apply Kd.R_drew)); exact HO_6.out⟩, ⟨by repeat (first | (with_reducible first | exact HB.out | apply below_alloc | apply pw_below_drewN | apply below_drew1 | refine below_set ?_ GE207.out) | exact HB.out)⟩⟩
                                · replace c55 := Bool.eq_false_iff.mpr c55
                                  subst c55
                                  have H1 : (downpourlaw14_RippleOnce.l1 k3 t177 x6_1 (wrap64 (x11_3 + 1)) x12_3 (-1) y173 (y173.length : Int) (wrap64 (x81_3 + 1))) = some r := by rw [if_neg (show ¬ (false = true) by decide)] at H; exact H
                                  clear H
                                  have H := H1
                                  clear H1
                                  have H' := Aside0.mk H
                                  clear H
                                  have p206 : 0 ≤ (x81_3 : Int) := of_decide_eq_true (by first | (with_reducible assumption) | assumption)
                                  have q206 : x81_3 < (y173.length : Int) := of_decide_eq_true (by first | (with_reducible assumption) | assumption)
                                  obtain ⟨ad206, e206, hx206_0, hx206_1, hx206_2⟩ := at_T43 HR176.out x81_3 p206 q206
                                  (try rw [← Nbq54.out] at hx206_0)
                                  cases e206
                                  replace hx206_0 := (HB.out.cell (World.block_lt_of_cell? w _ hx206_0)).trans hx206_0
                                  replace hx206_1 := (HB.out.cell (World.block_lt_of_cell? w _ hx206_1)).trans hx206_1
                                  replace hx206_2 := (HB.out.cell (World.block_lt_of_cell? w _ hx206_2)).trans hx206_2
                                  replace p206 := eq_true p206
                                  replace q206 := eq_true q206
                                  go_wp2_with (first | ((with_reducible refine gate_dst (N := 15) rfl ?_); (try (refine gate_guard (by rfl) ?_; dsimp only)); refine box_event ?hg (N := 15) ?hd (cs := #[.bool false, .int .i64 0, .int .u64 0]) (t := 43) ?hr ?_; (case hd => rfl); (case hg => rfl); (case hr => first | (go_simp; done) | (go_simp; rfl)); intro gb207 hg w83 hbox hb; have n0_ := Aside0.mk (Kd.R_below (by (with_reducible repeat (first | apply Kd.R_alloc | apply Kd.R_drewN | apply Kd.R_drew)); exact HO_3.out) hb); have n1_ := Aside0.mk (Kd.R_below (by (with_reducible repeat (first | apply Kd.R_alloc | apply Kd.R_drewN | apply Kd.R_drew)); exact HO_6.out) hb); have n2_ := Aside0.mk (below_step (by repeat (first | (with_reducible first | exact HB.out | apply below_alloc | apply pw_below_drewN | apply below_drew1) | exact HB.out)) hb); have n3_ := Aside0.mk (hbox); have n4_ := Aside0.mk ((by rw [hg]; exact (below_size (by repeat (first | (with_reducible first | exact HB.out | apply below_alloc | apply pw_below_drewN | apply below_drew1) | exact HB.out))) : w.heap.size ≤ gb207)); have n5_ := Aside0.mk ((by rw [hg]; exact (below_size (by repeat (first | (with_reducible first | exact HB.out | apply below_alloc | apply pw_below_drewN | apply below_drew1) | exact HB.out))) : w.heap.size ≤ gb207)); clear HO_3; clear HO_6; clear HB; have HO_3 := n0_; have HO_6 := n1_; have HB := n2_; have BK207 := n3_; have GW207 := n4_; have GE207 := n5_; clear n0_ n1_ n2_ n3_ n4_ n5_; clear hb hbox hg; have hcz84_0 : w83.cell? ⟨gb207, 0, none⟩ = some (.bool false) := (blk_cell BK207.out 0).trans rfl; have hcz84_1 : w83.cell? ⟨gb207, 1, none⟩ = some (.int .i64 0) := (blk_cell BK207.out 1).trans rfl; have hcz84_2 : w83.cell? ⟨gb207, 2, none⟩ = some (.int .u64 0) := (blk_cell BK207.out 2).trans rfl; have hfz84_0 := blk_frozen BK207.out 0; have hfz84_1 := blk_frozen BK207.out 1; have hfz84_2 := blk_frozen BK207.out 2))
                                  go_roundg k3
                                  case measure => have := HK1.out; have := HJ20.out; have := HK3.out; omega
                                  case rel => exact ⟨(wrap64 (x11_3 + 1)), (x12_3), ((-1)), (wrap64 (x81_3 + 1)), (by first | rfl | (simp; done) | (simp [*]; done)), (by first | rfl | (simp; done) | (simp [*]; done)), (by first | rfl | (simp; done) | (simp [*]; done)), (by first | rfl | (simp; done) | (simp [*]; done)), H', ⟨by have := HK1.out; have := HJ20.out; have := HK3.out; omega⟩, ⟨by (with_reducible repeat (first | apply Kd.R_alloc | apply Kd.R_drewN | apply Kd.R_drew)); exact Kd.R_mono (Kd.R_far (p := ⟨gb207, 2, none⟩) (Kd.R_far (p := ⟨gb207, 1, none⟩) (Kd.R_far (p := ⟨gb207, 0, none⟩) (Kd.R_types HO_3.out BK207.out (by decide)) (fun _ hk => hk.2) (.bool false)) (fun _ hk => hk.2) (.int .i64 ((rd_T43 y173 x81_3).f1.f0))) (fun _ hk => hk.2) (.int .u64 ((rd_T43 y173 x81_3).f1.f1))) (fun _ hk => hk.1)⟩, ⟨by (with_reducible repeat (first | apply Kd.R_alloc | apply Kd.R_drewN | apply Kd.R_drew)); exact Kd.R_mono (Kd.R_far (p := ⟨gb207, 2, none⟩) (Kd.R_far (p := ⟨gb207, 1, none⟩) (Kd.R_far (p := ⟨gb207, 0, none⟩) (Kd.R_types HO_6.out BK207.out (by decide)) (fun _ hk => hk.2) (.bool false)) (fun _ hk => hk.2) (.int .i64 ((rd_T43 y173 x81_3).f1.f0))) (fun _ hk => hk.2) (.int .u64 ((rd_T43 y173 x81_3).f1.f1))) (fun _ hk => hk.1)⟩, ⟨by repeat (first | (with_reducible first | exact HB.out | apply below_alloc | apply pw_below_drewN | apply below_drew1 | refine below_set ?_ GE207.out) | exact HB.out)⟩⟩
                              · rw [if_neg c53] at H
                                exact absurd H (by simp)
                            · rw [if_neg c52] at H
                              exact absurd H (by simp)
                          · rw [if_neg c51] at H
                            have c51b0 : decide (x81_3 < (y173.length : Int)) = false := decide_eq_false c51
                            clear c51
                            have H' := Aside0.mk H
                            clear H
                            obtain ⟨Ao85, co85, eo85⟩ := Kd.R_slice HO_6.out
                            subst eo85
                            go_wp2
                            go_loopg [16, 117] k3 (fun kq v16 v117 w' => ∃ (x16_4 : List (S43)) (x117_4 : Int), v117 = .int .i64 x117_4 ∧ Aside0 (downpourlaw14_RippleOnce.l2 kq x6_1 x16_4 x6_1 (x6_1.length : Int) x117_4 = some r) ∧ Aside0 (kq ≤ k3) ∧ Aside0 (Kd.R k24 24 w' w.heap.size (fun _ => True) (.slice Ao85 x6_1.length co85) x6_1) ∧ Aside0 (Kd.R k43 43 w' w.heap.size (fun _ => True) v16 x16_4) ∧ Aside0 (Kd.R k24 24 w' w.heap.size (fun _ => True) (.slice Ao85 x6_1.length co85) x6_1) ∧ Aside0 (Below w.heap.size w w'))
                            case atStart => exact ⟨(([] : List (S43))), (0), (by first | rfl | (simp; done) | (simp [*]; done)), H', ⟨Nat.le_refl _⟩, ⟨by (with_reducible repeat (first | apply Kd.R_alloc | apply Kd.R_drewN | apply Kd.R_drew)); exact Kd.R_mono HO_6.out (fun _ hk => trivial)⟩, ⟨by first | exact Kd.R_nil _ _ _ _ _ | exact Kd.N_nil _ _ _ _ _ | exact Kd.V_nil _ _ _ _ _ | exact Kd.Q_nil _ _ _ _ _ | exact Kd.S_nil _ _ _ _ _⟩, ⟨by (with_reducible repeat (first | apply Kd.R_alloc | apply Kd.R_drewN | apply Kd.R_drew)); exact Kd.R_mono HO_6.out (fun _ hk => trivial)⟩, ⟨by repeat (first | (with_reducible first | exact HB.out | apply below_alloc | apply pw_below_drewN | apply below_drew1) | exact HB.out)⟩⟩
                            case round =>
                              clear H'
                              try clear c1
                              try clear p2
                              try clear q2
                              try clear hx2
                              try clear c5
                              try clear q5
                              try clear c6
                              try clear p6
                              try clear c10
                              try clear p20
                              try clear q20
                              try clear hx20
                              try clear c51
                              try clear c51b0
                              try clear c52
                              try clear c53
                              try clear q54
                              try clear c55
                              try clear c56
                              try clear c56b0
                              try clear c56b1
                              try clear c59
                              try clear c59b0
                              try clear c59b1
                              try clear c62
                              try clear c62b0
                              try clear c63
                              try clear c63b0
                              try clear c64
                              try clear c64b0
                              try clear p64
                              try clear c65
                              try clear c65b0
                              try clear c66
                              try clear c66b0
                              try clear c68
                              try clear hcz61_0
                              try clear hcz61_1
                              try clear hcz61_2
                              try clear hcz70_0
                              try clear hcz70_1
                              try clear hcz70_2
                              try clear hcz75_0
                              try clear hcz75_1
                              try clear hcz75_2
                              try clear hcz80_0
                              try clear hcz80_1
                              try clear hcz80_2
                              try clear hcz84_0
                              try clear hcz84_1
                              try clear hcz84_2
                              try clear hfz61_0
                              try clear hfz61_1
                              try clear hfz61_2
                              try clear hfz70_0
                              try clear hfz70_1
                              try clear hfz70_2
                              try clear hfz75_0
                              try clear hfz75_1
                              try clear hfz75_2
                              try clear hfz80_0
                              try clear hfz80_1
                              try clear hfz80_2
                              try clear hfz84_0
                              try clear hfz84_1
                              try clear hfz84_2
                              try clear hx206_0
                              try clear hx206_1
                              try clear hx206_2
                              try clear hx208_0
                              try clear hx208_1
                              try clear hx209_0
                              try clear hx209_1
                              try clear p206
                              try clear p208
                              try clear p209
                              try clear q206
                              try clear q208
                              try clear q209
                              obtain ⟨x16_4, x117_4, rfl, HA, HK4, HO_6, HO_16, HO_115, HB⟩ := hrel
                              cases gk with
                              | zero => exact absurd HA.out (by simp [downpourlaw14_RippleOnce.l2])
                              | succ k4 =>
                                have H := HA.out
                                clear HA
                                simp only [downpourlaw14_RippleOnce.l2] at H
                                by_cases c86 : x117_4 < (x6_1.length : Int)
                                · rw [if_pos c86] at H
                                  have c86b0 : decide (x117_4 < (x6_1.length : Int)) = true := decide_eq_true c86
                                  clear c86
                                  by_cases c87 : 0 ≤ x117_4
                                  · rw [if_pos c87] at H
                                    have c87b0 : decide (0 ≤ x117_4) = true := decide_eq_true c87
                                    clear c87
                                    by_cases c88 : x117_4 < (x6_1.length : Int)
                                    · rw [if_pos c88] at H
                                      have c88b0 : decide (x117_4 < (x6_1.length : Int)) = true := decide_eq_true c88
                                      clear c88
                                      by_cases c89 : x16_4.length < 5864062014805
                                      · rw [if_pos c89] at H
                                        have LMc89 := Aside0.mk c89
                                        clear c89
                                        obtain ⟨y213, hy213⟩ : ∃ y_ : List (S43), y_ = (x16_4 ++ [(⟨false, (⟨(rd_T24 x6_1 x117_4).f0, (rd_T24 x6_1 x117_4).f1⟩ : S24)⟩ : S43)]) := ⟨_, rfl⟩
                                        replace H : (downpourlaw14_RippleOnce.l2 k4 x6_1 y213 x6_1 (x6_1.length : Int) (wrap64 (x117_4 + 1))) = some r := by first | (rw [hy213]; with_reducible exact H) | (have H2_ := (Option.bind_some _ _).symm.trans H; rw [hy213]; with_reducible exact H2_) | (have H2_ := (Option.bind_some _ _).symm.trans H; with_reducible exact H2_) | with_reducible exact H | (rw [hy213]; exact H) | exact H
                                        have Ny213 := Aside0.mk hy213
                                        clear hy213
                                        have H' := Aside0.mk H
                                        clear H
                                        have p211 : 0 ≤ (x117_4 : Int) := of_decide_eq_true (by first | (with_reducible assumption) | assumption)
                                        have q211 : x117_4 < (x6_1.length : Int) := of_decide_eq_true (by first | (with_reducible assumption) | assumption)
                                        obtain ⟨ad211, e211, hx211_0, hx211_1⟩ := at_T24 (Kd.R_reads' HO_115.out).2.2 x117_4 p211 q211
                                        cases e211
                                        replace p211 := eq_true p211
                                        replace q211 := eq_true q211
                                        go_wp2_with (first | ((with_reducible refine gate_dst (N := 18) rfl ?_); (try (refine gate_guard (by rfl) ?_; dsimp only)); refine box_event ?hg (N := 18) ?hd (cs := #[.int .i64 0, .int .u64 0]) (t := 24) ?hr ?_; (case hd => rfl); (case hg => rfl); (case hr => first | (go_simp; done) | (go_simp; rfl)); intro gb212 hg w90 hbox hb; have n0_ := Aside0.mk (Kd.R_below (Kd.R_elderB (by (with_reducible repeat (first | apply Kd.R_alloc | apply Kd.R_drewN | apply Kd.R_drew)); exact HO_6.out) gb212 (Nat.le_of_eq hg.symm)) hb); have n1_ := Aside0.mk (Kd.R_below (by (with_reducible repeat (first | apply Kd.R_alloc | apply Kd.R_drewN | apply Kd.R_drew)); exact HO_16.out) hb); have n2_ := Aside0.mk (Kd.R_below (Kd.R_elderB (by (with_reducible repeat (first | apply Kd.R_alloc | apply Kd.R_drewN | apply Kd.R_drew)); exact HO_115.out) gb212 (Nat.le_of_eq hg.symm)) hb); have n3_ := Aside0.mk (below_step (by repeat (first | (with_reducible first | exact HB.out | apply below_alloc | apply pw_below_drewN | apply below_drew1) | exact HB.out)) hb); have n4_ := Aside0.mk (hbox); have n5_ := Aside0.mk ((by rw [hg]; exact (below_size (by repeat (first | (with_reducible first | exact HB.out | apply below_alloc | apply pw_below_drewN | apply below_drew1) | exact HB.out))) : w.heap.size ≤ gb212)); have n6_ := Aside0.mk ((by rw [hg]; exact (below_size (by repeat (first | (with_reducible first | exact HB.out | apply below_alloc | apply pw_below_drewN | apply below_drew1) | exact HB.out))) : w.heap.size ≤ gb212)); clear HO_6; clear HO_16; clear HO_115; clear HB; have HO_6 := n0_; have HO_16 := n1_; have HO_115 := n2_; have HB := n3_; have BK212 := n4_; have GW212 := n5_; have GE212 := n6_; clear n0_ n1_ n2_ n3_ n4_ n5_ n6_; clear hb hbox hg; have hcz91_0 : w90.cell? ⟨gb212, 0, none⟩ = some (.int .i64 0) := (blk_cell BK212.out 0).trans rfl; have hcz91_1 : w90.cell? ⟨gb212, 1, none⟩ = some (.int .u64 0) := (blk_cell BK212.out 1).trans rfl; have hfz91_0 := blk_frozen BK212.out 0; have hfz91_1 := blk_frozen BK212.out 1) | ((with_reducible refine gate_builtin (b := .append) (xs := #[.tmp 121, .tmp 124]) rfl ?_); (try (refine gate_guard (by rfl) ?_; dsimp only)); at_builtin; refine Kd.R_append k43 (w0 := w) w.heap.size rfl (.tmp 121) (.tmp 124) 35 43 (.agg #[(.bool false), (.int .i64 0), (.int .u64 0)]) 24 rfl Try.underlying35 info43 rfl (by decide) (by omega) u16 x16_4 (⟨false, (⟨(rd_T24 x6_1 x117_4).f0, (rd_T24 x6_1 x117_4).f1⟩ : S24)⟩ : S43) [.bool false, .int .i64 ((rd_T24 x6_1 x117_4).f0), .int .u64 ((rd_T24 x6_1 x117_4).f1)] (fun _ => True) (fun _ => False) rfl (by first | (go_simp; done) | (go_simp; rfl)) ?aP (fun _ hk => hk.elim) ?aF ?aO ?aB ?aS ?aL ?_; (case aP => exact k43_mkM _ _ _ (⟨false, (⟨(rd_T24 x6_1 x117_4).f0, (rd_T24 x6_1 x117_4).f1⟩ : S24)⟩ : S43)); (case aB => exact (by repeat (first | (with_reducible first | exact HB.out | apply below_alloc | apply pw_below_drewN | apply below_drew1 | refine below_set ?_ GE212.out) | exact HB.out))); (case aF => exact (fun _ _ => trivial)); (case aO => exact (by (with_reducible repeat (first | apply Kd.R_alloc | apply Kd.R_drewN | apply Kd.R_drew)); exact Kd.R_mono (Kd.R_far (p := ⟨gb212, 1, none⟩) (Kd.R_far (p := ⟨gb212, 0, none⟩) (Kd.R_types HO_16.out BK212.out (by decide)) (fun _ hk => hk.2) (.int .i64 ((rd_T24 x6_1 x117_4).f0))) (fun _ hk => hk.2) (.int .u64 ((rd_T24 x6_1 x117_4).f1))) (fun _ hk => trivial))); (case aS => exact (below_size (by repeat (first | (with_reducible first | exact HB.out | apply below_alloc | apply pw_below_drewN | apply below_drew1 | refine below_set ?_ GE212.out) | exact HB.out)))); (case aL => have := LMc89.out; omega); intro v214 w92 ho hb hg hat; rw [← Ny213.out] at ho; have n0_ := Aside0.mk (Kd.R_over' (by (with_reducible repeat (first | apply Kd.R_alloc | apply Kd.R_drewN | apply Kd.R_drew)); exact (Kd.R_mono (Kd.R_far (p := ⟨gb212, 1, none⟩) (Kd.R_far (p := ⟨gb212, 0, none⟩) (Kd.R_mono HO_6.out (fun k_ hk => (⟨hk, hk.2⟩ : _ ∧ k_ ≠ gb212))) (fun _ hk => hk.2) (.int .i64 ((rd_T24 x6_1 x117_4).f0))) (fun _ hk => hk.2) (.int .u64 ((rd_T24 x6_1 x117_4).f1))) (fun _ h_ => h_.1))) (Kd.R_typed (by (with_reducible repeat (first | apply Kd.R_alloc | apply Kd.R_drewN | apply Kd.R_drew)); exact (Kd.R_mono (Kd.R_far (p := ⟨gb212, 1, none⟩) (Kd.R_far (p := ⟨gb212, 0, none⟩) (Kd.R_types HO_16.out BK212.out (by decide)) (fun _ hk => hk.2) (.int .i64 ((rd_T24 x6_1 x117_4).f0))) (fun _ hk => hk.2) (.int .u64 ((rd_T24 x6_1 x117_4).f1))) (fun _ h_ => h_.1)))) (by decide) hg); have n1_ := Aside0.mk (Kd.R_over' (by (with_reducible repeat (first | apply Kd.R_alloc | apply Kd.R_drewN | apply Kd.R_drew)); exact (Kd.R_mono (Kd.R_far (p := ⟨gb212, 1, none⟩) (Kd.R_far (p := ⟨gb212, 0, none⟩) (Kd.R_mono HO_115.out (fun k_ hk => (⟨hk, hk.2⟩ : _ ∧ k_ ≠ gb212))) (fun _ hk => hk.2) (.int .i64 ((rd_T24 x6_1 x117_4).f0))) (fun _ hk => hk.2) (.int .u64 ((rd_T24 x6_1 x117_4).f1))) (fun _ h_ => h_.1))) (Kd.R_typed (by (with_reducible repeat (first | apply Kd.R_alloc | apply Kd.R_drewN | apply Kd.R_drew)); exact (Kd.R_mono (Kd.R_far (p := ⟨gb212, 1, none⟩) (Kd.R_far (p := ⟨gb212, 0, none⟩) (Kd.R_types HO_16.out BK212.out (by decide)) (fun _ hk => hk.2) (.int .i64 ((rd_T24 x6_1 x117_4).f0))) (fun _ hk => hk.2) (.int .u64 ((rd_T24 x6_1 x117_4).f1))) (fun _ h_ => h_.1)))) (by decide) hg); have n2_ := Aside0.mk (blk_grown (g := gb212) (o := .cells #[.int .i64 ((rd_T24 x6_1 x117_4).f0), .int .u64 ((rd_T24 x6_1 x117_4).f1)] 24 (0, 0)) (by (with_reducible repeat (first | refine blk_drewN ?_ _ | refine blk_drew ?_ | refine blk_alloc ?_ _)); refine blk_put (cs := #[.int .i64 ((rd_T24 x6_1 x117_4).f0), .int .u64 0]) ?_ 1 _ rfl; (with_reducible repeat (first | refine blk_drewN ?_ _ | refine blk_drew ?_ | refine blk_alloc ?_ _)); refine blk_put (cs := #[.int .i64 0, .int .u64 0]) ?_ 0 _ rfl; (with_reducible repeat (first | refine blk_drewN ?_ _ | refine blk_drew ?_ | refine blk_alloc ?_ _)); exact BK212.out) hg (Kd.R_ne HO_16.out BK212.out (by decide))); have n3_ := Aside0.mk (hb); have n4_ := Aside0.mk (ho); clear HO_6; clear HO_115; clear BK212; clear HB; clear HO_16; have HO_6 := n0_; have HO_115 := n1_; have BK212 := n2_; have HB := n3_; have HO215 := n4_; clear n0_ n1_ n2_ n3_ n4_; clear ho hb hg hat))
                                        go_roundg k4
                                        case measure => have := HK1.out; have := HJ20.out; have := HK3.out; have := HK4.out; omega
                                        case rel => exact ⟨(y213), (wrap64 (x117_4 + 1)), (by first | rfl | (simp; done) | (simp [*]; done)), H', ⟨by have := HK1.out; have := HJ20.out; have := HK3.out; have := HK4.out; omega⟩, ⟨by (with_reducible repeat (first | apply Kd.R_alloc | apply Kd.R_drewN | apply Kd.R_drew)); exact Kd.R_mono HO_6.out (fun _ hk => trivial)⟩, ⟨by (with_reducible repeat (first | apply Kd.R_alloc | apply Kd.R_drewN | apply Kd.R_drew)); exact HO215.out⟩, ⟨by (with_reducible repeat (first | apply Kd.R_alloc | apply Kd.R_drewN | apply Kd.R_drew)); exact Kd.R_mono HO_115.out (fun _ hk => trivial)⟩, ⟨by repeat (first | (with_reducible first | exact HB.out | apply below_alloc | apply pw_below_drewN | apply below_drew1 | refine below_set ?_ GE212.out) | exact HB.out)⟩⟩
                                      · rw [if_neg c89] at H
                                        exact absurd H (by simp)
                                    · rw [if_neg c88] at H
                                      exact absurd H (by simp)
                                  · rw [if_neg c87] at H
                                    exact absurd H (by simp)
                                · rw [if_neg c86] at H
                                  have c86b0 : decide (x117_4 < (x6_1.length : Int)) = false := decide_eq_false c86
                                  clear c86
                                  have H' := Aside0.mk H
                                  clear H
                                  go_wp2
                                  go_loopg [16, 129] k4 (fun kq v16 v129 w' => ∃ (x16_5 : List (S43)) (x129_5 : Int), v129 = .int .i64 x129_5 ∧ Aside0 (downpourlaw14_RippleOnce.l3 kq x6_1 x16_5 (x6_1.length : Int) x129_5 = some r) ∧ Aside0 (kq ≤ k4) ∧ Aside0 (Kd.R k24 24 w' w.heap.size (fun _ => True) (.slice Ao85 x6_1.length co85) x6_1) ∧ Aside0 (Kd.R k43 43 w' w.heap.size (fun _ => True) v16 x16_5) ∧ Aside0 (Below w.heap.size w w'))
                                  case atStart => exact ⟨(x16_4), (0), (by first | rfl | (simp; done) | (simp [*]; done)), H', ⟨Nat.le_refl _⟩, ⟨by (with_reducible repeat (first | apply Kd.R_alloc | apply Kd.R_drewN | apply Kd.R_drew)); exact HO_6.out⟩, ⟨by (with_reducible repeat (first | apply Kd.R_alloc | apply Kd.R_drewN | apply Kd.R_drew)); exact HO_16.out⟩, ⟨by repeat (first | (with_reducible first | exact HB.out | apply below_alloc | apply pw_below_drewN | apply below_drew1) | exact HB.out)⟩⟩
                                  case round =>
                                    clear H'
                                    try clear c1
                                    try clear p2
                                    try clear q2
                                    try clear hx2
                                    try clear c5
                                    try clear q5
                                    try clear c6
                                    try clear p6
                                    try clear c8
                                    try clear c10
                                    try clear p20
                                    try clear q20
                                    try clear hx20
                                    try clear p21
                                    try clear q21
                                    try clear hx21
                                    try clear c51
                                    try clear c51b0
                                    try clear c52
                                    try clear c53
                                    try clear q54
                                    try clear c55
                                    try clear c56
                                    try clear c56b0
                                    try clear c56b1
                                    try clear c59
                                    try clear c59b0
                                    try clear c59b1
                                    try clear c62
                                    try clear c62b0
                                    try clear c63
                                    try clear c63b0
                                    try clear c64
                                    try clear c64b0
                                    try clear p64
                                    try clear c65
                                    try clear c65b0
                                    try clear c66
                                    try clear c66b0
                                    try clear c68
                                    try clear c86
                                    try clear c86b0
                                    try clear c87
                                    try clear c87b0
                                    try clear c88
                                    try clear c88b0
                                    try clear c89
                                    try clear hcz61_0
                                    try clear hcz61_1
                                    try clear hcz61_2
                                    try clear hcz70_0
                                    try clear hcz70_1
                                    try clear hcz70_2
                                    try clear hcz75_0
                                    try clear hcz75_1
                                    try clear hcz75_2
                                    try clear hcz80_0
                                    try clear hcz80_1
                                    try clear hcz80_2
                                    try clear hcz84_0
                                    try clear hcz84_1
                                    try clear hcz84_2
                                    try clear hcz91_0
                                    try clear hcz91_1
                                    try clear hfz61_0
                                    try clear hfz61_1
                                    try clear hfz61_2
                                    try clear hfz70_0
                                    try clear hfz70_1
                                    try clear hfz70_2
                                    try clear hfz75_0
                                    try clear hfz75_1
                                    try clear hfz75_2
                                    try clear hfz80_0
                                    try clear hfz80_1
                                    try clear hfz80_2
                                    try clear hfz84_0
                                    try clear hfz84_1
                                    try clear hfz84_2
                                    try clear hfz91_0
                                    try clear hfz91_1
                                    try clear hx206_0
                                    try clear hx206_1
                                    try clear hx206_2
                                    try clear hx208_0
                                    try clear hx208_1
                                    try clear hx209_0
                                    try clear hx209_1
                                    try clear hx211_0
                                    try clear hx211_1
                                    try clear p2
                                    try clear p20
                                    try clear p206
                                    try clear p208
                                    try clear p209
                                    try clear p211
                                    try clear p6
                                    try clear p64
                                    try clear q2
                                    try clear q20
                                    try clear q206
                                    try clear q208
                                    try clear q209
                                    try clear q211
                                    try clear q5
                                    try clear q54
                                    obtain ⟨x16_5, x129_5, rfl, HA, HK5, HO_6, HO_16, HB⟩ := hrel
                                    cases gk with
                                    | zero => exact absurd HA.out (by simp [downpourlaw14_RippleOnce.l3])
                                    | succ k5 =>
                                      have H := HA.out
                                      clear HA
                                      simp only [downpourlaw14_RippleOnce.l3] at H
                                      by_cases c93 : x129_5 < (x6_1.length : Int)
                                      · rw [if_pos c93] at H
                                        have c93b0 : decide (x129_5 < (x6_1.length : Int)) = true := decide_eq_true c93
                                        clear c93
                                        by_cases c94 : x16_5.length < 5864062014805
                                        · rw [if_pos c94] at H
                                          have LMc94 := Aside0.mk c94
                                          clear c94
                                          obtain ⟨y216, hy216⟩ : ∃ y_ : List (S43), y_ = (x16_5 ++ [(⟨true, (⟨0, 0⟩ : S24)⟩ : S43)]) := ⟨_, rfl⟩
                                          replace H : (downpourlaw14_RippleOnce.l3 k5 x6_1 y216 (x6_1.length : Int) (wrap64 (x129_5 + 1))) = some r := by first | (rw [hy216]; with_reducible exact H) | (have H2_ := (Option.bind_some _ _).symm.trans H; rw [hy216]; with_reducible exact H2_) | (have H2_ := (Option.bind_some _ _).symm.trans H; with_reducible exact H2_) | with_reducible exact H | (rw [hy216]; exact H) | exact H
                                          have Ny216 := Aside0.mk hy216
                                          clear hy216
                                          have H' := Aside0.mk H
                                          clear H
                                          go_wp2_with (first | ((with_reducible refine gate_builtin (b := .append) (xs := #[.tmp 131, .tmp 133]) rfl ?_); (try (refine gate_guard (by rfl) ?_; dsimp only)); at_builtin; refine Kd.R_append k43 (w0 := w) w.heap.size rfl (.tmp 131) (.tmp 133) 35 43 (.agg #[(.bool false), (.int .i64 0), (.int .u64 0)]) 24 rfl Try.underlying35 info43 rfl (by decide) (by omega) u16 x16_5 (⟨true, (⟨0, 0⟩ : S24)⟩ : S43) [.bool true, .int .i64 0, .int .u64 0] (fun _ => True) (fun _ => False) rfl rfl ?aP (fun _ hk => hk.elim) ?aF ?aO ?aB ?aS ?aL ?_; (case aP => exact k43_mkM _ _ _ (⟨true, (⟨0, 0⟩ : S24)⟩ : S43)); (case aB => exact (by repeat (first | (with_reducible first | exact HB.out | apply below_alloc | apply pw_below_drewN | apply below_drew1) | exact HB.out))); (case aF => exact (fun _ _ => trivial)); (case aO => exact (by (with_reducible repeat (first | apply Kd.R_alloc | apply Kd.R_drewN | apply Kd.R_drew)); exact HO_16.out)); (case aS => exact (below_size (by repeat (first | (with_reducible first | exact HB.out | apply below_alloc | apply pw_below_drewN | apply below_drew1) | exact HB.out)))); (case aL => have := LMc94.out; omega); intro v217 w95 ho hb hg hat; rw [← Ny216.out] at ho; have n0_ := Aside0.mk (Kd.R_over' (by (with_reducible repeat (first | apply Kd.R_alloc | apply Kd.R_drewN | apply Kd.R_drew)); exact HO_6.out) (Kd.R_typed (by (with_reducible repeat (first | apply Kd.R_alloc | apply Kd.R_drewN | apply Kd.R_drew)); exact HO_16.out)) (by decide) hg); have n1_ := Aside0.mk (hb); have n2_ := Aside0.mk (ho); clear HO_6; clear HB; clear HO_16; have HO_6 := n0_; have HB := n1_; have HO218 := n2_; clear n0_ n1_ n2_; clear ho hb hg hat))
                                          go_roundg k5
                                          case measure => have := HK1.out; have := HJ20.out; have := HK3.out; have := HK4.out; have := HK5.out; omega
                                          case rel => exact ⟨(y216), (wrap64 (x129_5 + 1)), (by first | rfl | (simp; done) | (simp [*]; done)), H', ⟨by have := HK1.out; have := HJ20.out; have := HK3.out; have := HK4.out; have := HK5.out; omega⟩, ⟨by (with_reducible repeat (first | apply Kd.R_alloc | apply Kd.R_drewN | apply Kd.R_drew)); exact HO_6.out⟩, ⟨by (with_reducible repeat (first | apply Kd.R_alloc | apply Kd.R_drewN | apply Kd.R_drew)); exact HO218.out⟩, ⟨by repeat (first | (with_reducible first | exact HB.out | apply below_alloc | apply pw_below_drewN | apply below_drew1) | exact HB.out)⟩⟩
                                        · rw [if_neg c94] at H
                                          exact absurd H (by simp)
                                      · rw [if_neg c93] at H
                                        have c93b0 : decide (x129_5 < (x6_1.length : Int)) = false := decide_eq_false c93
                                        clear c93
                                        replace H := Option.bind_eq_some_iff.mp H
                                        obtain ⟨⟨t219, t220, t221⟩, A960, H⟩ := H
                                        replace H : ((ripple_Sorted.f x6_1).bind fun t226 => ((downpourref14_Same.f k5 t219 t226).bind fun t229 => (if t229 = true then (if (t220.length : Int) = 0 then (some (t221 == 0)) else (some false)) else (some false)))) = some r := H
                                        have A96 := Aside0.mk A960
                                        clear A960
                                        replace H := Option.bind_eq_some_iff.mp H
                                        obtain ⟨t226, A970, H⟩ := H
                                        replace H : ((downpourref14_Same.f k5 t219 t226).bind fun t229 => (if t229 = true then (if (t220.length : Int) = 0 then (some (t221 == 0)) else (some false)) else (some false))) = some r := H
                                        have A97 := Aside0.mk A970
                                        clear A970
                                        replace H := Option.bind_eq_some_iff.mp H
                                        obtain ⟨t229, A980, H⟩ := H
                                        replace H : (if t229 = true then (if (t220.length : Int) = 0 then (some (t221 == 0)) else (some false)) else (some false)) = some r := H
                                        have A98 := Aside0.mk A980
                                        clear A980
                                        by_cases c99 : t229 = true
                                        · subst c99
                                          have H1 : (if (t220.length : Int) = 0 then (some (t221 == 0)) else (some false)) = some r := by rw [if_pos rfl] at H; exact H
                                          clear H
                                          have H := H1
                                          clear H1
                                          by_cases c100 : (t220.length : Int) = 0
                                          · rw [if_pos c100] at H
                                            have c100b0 : ((t220.length : Int) == 0) = true := beq_iff_eq.mpr c100
                                            have c100b1 : ((t220.length : Int) != 0) = false := bne_eq_false_iff_eq.mpr c100
                                            clear c100
                                            obtain rfl := Option.some.inj H
                                            obtain ⟨Ao101, co101, eo101⟩ := Kd.R_slice HO_16.out
                                            subst eo101
                                            go_wp2_with (first | ((with_reducible refine gate_callee (f := 15) rfl ?_); refine goesL_ (some 138) rfl rfl Try.func15 (by kernel_rfl) rfl #[.slice Ao101 x16_5.length co101] rfl (by (try simp only [List.map_toArray, List.map_cons, List.map_nil]); first | done | rfl | (simp only [List.length_drop, List.length_take]; rfl)) ?_; (with_reducible refine (ripple_Run.calls _ _ x16_5 t219 t220 t221 _ ?side1 ?side2 A96.out).mono ?_); (case side1 => repeat (first | exact (Kd.R_reads' HO_16.out).2.2 | (with_reducible refine Kd.C_alloc ?_ _) | (with_reducible refine Kd.C_drewN ?_ _) | (with_reducible refine Kd.C_drew ?_))); (case side2 => exact (Kd.R_reads' HO_16.out).2.1); rintro e w102 ⟨v222, v224, rfl, ho0, ho1, hb⟩; refine ⟨_, rfl, ?_⟩; have n0_ := Aside0.mk (Kd.R_mono (Kd.R_told (Kd.R_told (Kd.R_old (by (with_reducible repeat (first | apply Kd.R_alloc | apply Kd.R_drewN | apply Kd.R_drew)); exact HO_6.out) hb) (Kd.R_base ho0)) (Kd.R_base ho1)) (fun _ h_ => h_.1)); have n1_ := Aside0.mk (Kd.R_below (by (with_reducible repeat (first | apply Kd.R_alloc | apply Kd.R_drewN | apply Kd.R_drew)); exact HO_16.out) hb); have n2_ := Aside0.mk (Kd.R_lower (Kd.R_new' ho0 (Kd.R_lt (by (with_reducible repeat (first | apply Kd.R_alloc | apply Kd.R_drewN | apply Kd.R_drew)); exact HO_6.out))) (below_size (by repeat (first | (with_reducible first | exact HB.out | apply below_alloc | apply pw_below_drewN | apply below_drew1) | exact HB.out)))); have n3_ := Aside0.mk (Kd.R_lower (Kd.R_new' ho1 (Kd.R_lt (by (with_reducible repeat (first | apply Kd.R_alloc | apply Kd.R_drewN | apply Kd.R_drew)); exact HO_6.out))) (below_size (by repeat (first | (with_reducible first | exact HB.out | apply below_alloc | apply pw_below_drewN | apply below_drew1) | exact HB.out)))); have n4_ := Aside0.mk (below_step (by repeat (first | (with_reducible first | exact HB.out | apply below_alloc | apply pw_below_drewN | apply below_drew1) | exact HB.out)) hb); clear HO_6; clear HO_16; clear HB; have HO_6 := n0_; have HO_16 := n1_; have HO223 := n2_; have HO225 := n3_; have HB := n4_; clear n0_ n1_ n2_ n3_ n4_; (try clear hb); (try clear hb2); (try clear hk); (try clear hi); (try clear ho0); (try clear ho1)) | ((with_reducible refine gate_callee (f := 13) rfl ?_); refine goesL_ (some 144) rfl rfl Try.func13 (by kernel_rfl) rfl #[.slice Ao85 x6_1.length co85] rfl (by (try simp only [List.map_toArray, List.map_cons, List.map_nil]); first | done | rfl | (simp only [List.length_drop, List.length_take]; rfl)) ?_; (with_reducible refine (ripple_Sorted.calls _ _ x6_1 t226 _ ?side1 ?side2 A97.out).mono ?_); (case side1 => repeat (first | exact (Kd.R_reads' HO_6.out).2.2 | (with_reducible refine Kd.C_alloc ?_ _) | (with_reducible refine Kd.C_drewN ?_ _) | (with_reducible refine Kd.C_drew ?_))); (case side2 => exact (Kd.R_reads' HO_6.out).2.1); rintro e w103 ⟨v227, rfl, ho0, hb⟩; refine ⟨_, rfl, ?_⟩; have n0_ := Aside0.mk (Kd.R_elder' (by (with_reducible repeat (first | apply Kd.R_alloc | apply Kd.R_drewN | apply Kd.R_drew)); exact HO_6.out) (Kd.R_base ho0) hb); have n1_ := Aside0.mk (Kd.R_below (by (with_reducible repeat (first | apply Kd.R_alloc | apply Kd.R_drewN | apply Kd.R_drew)); exact HO_16.out) hb); have n2_ := Aside0.mk (Kd.R_elder' (by (with_reducible repeat (first | apply Kd.R_alloc | apply Kd.R_drewN | apply Kd.R_drew)); exact HO223.out) (Kd.R_base ho0) hb); have n3_ := Aside0.mk (Kd.R_elder' (by (with_reducible repeat (first | apply Kd.R_alloc | apply Kd.R_drewN | apply Kd.R_drew)); exact HO225.out) (Kd.R_base ho0) hb); have n4_ := Aside0.mk (Kd.R_lower (Kd.R_new' (Kd.R_new' (Kd.R_new' ho0 (Kd.R_lt (by (with_reducible repeat (first | apply Kd.R_alloc | apply Kd.R_drewN | apply Kd.R_drew)); exact HO_6.out))) (Kd.R_lt (by (with_reducible repeat (first | apply Kd.R_alloc | apply Kd.R_drewN | apply Kd.R_drew)); exact HO223.out))) (Kd.R_lt (by (with_reducible repeat (first | apply Kd.R_alloc | apply Kd.R_drewN | apply Kd.R_drew)); exact HO225.out))) (below_size (by repeat (first | (with_reducible first | exact HB.out | apply below_alloc | apply pw_below_drewN | apply below_drew1) | exact HB.out)))); have n5_ := Aside0.mk (below_step (by repeat (first | (with_reducible first | exact HB.out | apply below_alloc | apply pw_below_drewN | apply below_drew1) | exact HB.out)) hb); clear HO_6; clear HO_16; clear HO223; clear HO225; clear HB; have HO_6 := n0_; have HO_16 := n1_; have HO223 := n2_; have HO225 := n3_; have HO228 := n4_; have HB := n5_; clear n0_ n1_ n2_ n3_ n4_ n5_; (try clear hb); (try clear hb2); (try clear hk); (try clear hi); (try clear ho0); obtain ⟨Ao104, co104, eo104⟩ := Kd.R_slice HO223.out; subst eo104; obtain ⟨Ao105, co105, eo105⟩ := Kd.R_slice HO228.out; subst eo105) | ((with_reducible refine gate_callee (f := 12) rfl ?_); refine goesL_ (some 145) rfl rfl Try.func12 (by kernel_rfl) rfl #[.slice Ao104 t219.length co104, .slice Ao105 t226.length co105] rfl (by (try simp only [List.map_toArray, List.map_cons, List.map_nil]); first | done | rfl | (simp only [List.length_drop, List.length_take]; rfl)) ?_; (with_reducible refine (downpourref14_Same.calls k5 _ _ t219 _ _ t226 true _ ?side1 ?side2 ?side3 ?side4 A98.out).mono ?_); (case side1 => repeat (first | exact (Kd.R_reads' HO223.out).2.2 | (with_reducible refine Kd.C_alloc ?_ _) | (with_reducible refine Kd.C_drewN ?_ _) | (with_reducible refine Kd.C_drew ?_))); (case side2 => exact (Kd.R_reads' HO223.out).2.1); (case side3 => repeat (first | exact (Kd.R_reads' HO228.out).2.2 | (with_reducible refine Kd.C_alloc ?_ _) | (with_reducible refine Kd.C_drewN ?_ _) | (with_reducible refine Kd.C_drew ?_))); (case side4 => exact (Kd.R_reads' HO228.out).2.1); rintro e w' ⟨rfl, ⟨nd, rfl⟩⟩; refine ⟨_, rfl, ?_⟩; obtain ⟨Ao106, co106, eo106⟩ := Kd.R_slice HO225.out; subst eo106))
                                            go_ret
                                            exact ⟨by first | rfl | (simp [errW_none, errW_some] <;> rfl) | (simp only [← hji2]; first | rfl | (simp [errW_none, errW_some] <;> rfl)) | (simp [*, errW_none, errW_some] <;> rfl), by repeat (first | (with_reducible first | exact HB.out | apply below_alloc | apply pw_below_drewN | apply below_drew1) | exact HB.out)⟩
                                          · rw [if_neg c100] at H
                                            have c100b0 : ((t220.length : Int) == 0) = false := beq_eq_false_iff_ne.mpr c100
                                            have c100b1 : ((t220.length : Int) != 0) = true := bne_iff_ne.mpr c100
                                            have c100b2 : ¬ (t220 = []) := fun h_ => c100 (by rw [h_]; rfl)
                                            obtain rfl := Option.some.inj H
                                            obtain ⟨Ao107, co107, eo107⟩ := Kd.R_slice HO_16.out
                                            subst eo107
                                            go_wp2_with (first | ((with_reducible refine gate_callee (f := 15) rfl ?_); refine goesL_ (some 138) rfl rfl Try.func15 (by kernel_rfl) rfl #[.slice Ao107 x16_5.length co107] rfl (by (try simp only [List.map_toArray, List.map_cons, List.map_nil]); first | done | rfl | (simp only [List.length_drop, List.length_take]; rfl)) ?_; (with_reducible refine (ripple_Run.calls _ _ x16_5 t219 t220 t221 _ ?side1 ?side2 A96.out).mono ?_); (case side1 => repeat (first | exact (Kd.R_reads' HO_16.out).2.2 | (with_reducible refine Kd.C_alloc ?_ _) | (with_reducible refine Kd.C_drewN ?_ _) | (with_reducible refine Kd.C_drew ?_))); (case side2 => exact (Kd.R_reads' HO_16.out).2.1); rintro e w108 ⟨v222, v224, rfl, ho0, ho1, hb⟩; refine ⟨_, rfl, ?_⟩; have n0_ := Aside0.mk (Kd.R_mono (Kd.R_told (Kd.R_told (Kd.R_old (by (with_reducible repeat (first | apply Kd.R_alloc | apply Kd.R_drewN | apply Kd.R_drew)); exact HO_6.out) hb) (Kd.R_base ho0)) (Kd.R_base ho1)) (fun _ h_ => h_.1)); have n1_ := Aside0.mk (Kd.R_below (by (with_reducible repeat (first | apply Kd.R_alloc | apply Kd.R_drewN | apply Kd.R_drew)); exact HO_16.out) hb); have n2_ := Aside0.mk (Kd.R_lower (Kd.R_new' ho0 (Kd.R_lt (by (with_reducible repeat (first | apply Kd.R_alloc | apply Kd.R_drewN | apply Kd.R_drew)); exact HO_6.out))) (below_size (by repeat (first | (with_reducible first | exact HB.out | apply below_alloc | apply pw_below_drewN | apply below_drew1) | exact HB.out)))); have n3_ := Aside0.mk (Kd.R_lower (Kd.R_new' ho1 (Kd.R_lt (by (with_reducible repeat (first | apply Kd.R_alloc | apply Kd.R_drewN | apply Kd.R_drew)); exact HO_6.out))) (below_size (by repeat (first | (with_reducible first | exact HB.out | apply below_alloc | apply pw_below_drewN | apply below_drew1) | exact HB.out)))); have n4_ := Aside0.mk (below_step (by repeat (first | (with_reducible first | exact HB.out | apply below_alloc | apply pw_below_drewN | apply below_drew1) | exact HB.out)) hb); clear HO_6; clear HO_16; clear HB; have HO_6 := n0_; have HO_16 := n1_; have HO223 := n2_; have HO225 := n3_; have HB := n4_; clear n0_ n1_ n2_ n3_ n4_; (try clear hb); (try clear hb2); (try clear hk); (try clear hi); (try clear ho0); (try clear ho1)) | ((with_reducible refine gate_callee (f := 13) rfl ?_); refine goesL_ (some 144) rfl rfl Try.func13 (by kernel_rfl) rfl #[.slice Ao85 x6_1.length co85] rfl (by (try simp only [List.map_toArray, List.map_cons, List.map_nil]); first | done | rfl | (simp only [List.length_drop, List.length_take]; rfl)) ?_; (with_reducible refine (ripple_Sorted.calls _ _ x6_1 t226 _ ?side1 ?side2 A97.out).mono ?_); (case side1 => repeat (first | exact (Kd.R_reads' HO_6.out).2.2 | (with_reducible refine Kd.C_alloc ?_ _) | (with_reducible refine Kd.C_drewN ?_ _) | (with_reducible refine Kd.C_drew ?_))); (case side2 => exact (Kd.R_reads' HO_6.out).2.1); rintro e w109 ⟨v227, rfl, ho0, hb⟩; refine ⟨_, rfl, ?_⟩; have n0_ := Aside0.mk (Kd.R_elder' (by (with_reducible repeat (first | apply Kd.R_alloc | apply Kd.R_drewN | apply Kd.R_drew)); exact HO_6.out) (Kd.R_base ho0) hb); have n1_ := Aside0.mk (Kd.R_below (by (with_reducible repeat (first | apply Kd.R_alloc | apply Kd.R_drewN | apply Kd.R_drew)); exact HO_16.out) hb); have n2_ := Aside0.mk (Kd.R_elder' (by (with_reducible repeat (first | apply Kd.R_alloc | apply Kd.R_drewN | apply Kd.R_drew)); exact HO223.out) (Kd.R_base ho0) hb); have n3_ := Aside0.mk (Kd.R_elder' (by (with_reducible repeat (first | apply Kd.R_alloc | apply Kd.R_drewN | apply Kd.R_drew)); exact HO225.out) (Kd.R_base ho0) hb); have n4_ := Aside0.mk (Kd.R_lower (Kd.R_new' (Kd.R_new' (Kd.R_new' ho0 (Kd.R_lt (by (with_reducible repeat (first | apply Kd.R_alloc | apply Kd.R_drewN | apply Kd.R_drew)); exact HO_6.out))) (Kd.R_lt (by (with_reducible repeat (first | apply Kd.R_alloc | apply Kd.R_drewN | apply Kd.R_drew)); exact HO223.out))) (Kd.R_lt (by (with_reducible repeat (first | apply Kd.R_alloc | apply Kd.R_drewN | apply Kd.R_drew)); exact HO225.out))) (below_size (by repeat (first | (with_reducible first | exact HB.out | apply below_alloc | apply pw_below_drewN | apply below_drew1) | exact HB.out)))); have n5_ := Aside0.mk (below_step (by repeat (first | (with_reducible first | exact HB.out | apply below_alloc | apply pw_below_drewN | apply below_drew1) | exact HB.out)) hb); clear HO_6; clear HO_16; clear HO223; clear HO225; clear HB; have HO_6 := n0_; have HO_16 := n1_; have HO223 := n2_; have HO225 := n3_; have HO228 := n4_; have HB := n5_; clear n0_ n1_ n2_ n3_ n4_ n5_; (try clear hb); (try clear hb2); (try clear hk); (try clear hi); (try clear ho0); obtain ⟨Ao110, co110, eo110⟩ := Kd.R_slice HO223.out; subst eo110; obtain ⟨Ao111, co111, eo111⟩ := Kd.R_slice HO228.out; subst eo111) | ((with_reducible refine gate_callee (f := 12) rfl ?_); refine goesL_ (some 145) rfl rfl Try.func12 (by kernel_rfl) rfl #[.slice Ao110 t219.length co110, .slice Ao111 t226.length co111] rfl (by (try simp only [List.map_toArray, List.map_cons, List.map_nil]); first | done | rfl | (simp only [List.length_drop, List.length_take]; rfl)) ?_; (with_reducible refine (downpourref14_Same.calls k5 _ _ t219 _ _ t226 true _ ?side1 ?side2 ?side3 ?side4 A98.out).mono ?_); (case side1 => repeat (first | exact (Kd.R_reads' HO223.out).2.2 | (with_reducible refine Kd.C_alloc ?_ _) | (with_reducible refine Kd.C_drewN ?_ _) | (with_reducible refine Kd.C_drew ?_))); (case side2 => exact (Kd.R_reads' HO223.out).2.1); (case side3 => repeat (first | exact (Kd.R_reads' HO228.out).2.2 | (with_reducible refine Kd.C_alloc ?_ _) | (with_reducible refine Kd.C_drewN ?_ _) | (with_reducible refine Kd.C_drew ?_))); (case side4 => exact (Kd.R_reads' HO228.out).2.1); rintro e w' ⟨rfl, ⟨nd, rfl⟩⟩; refine ⟨_, rfl, ?_⟩; obtain ⟨Ao112, co112, eo112⟩ := Kd.R_slice HO225.out; subst eo112))
                                            go_ret
                                            exact ⟨by first | rfl | (simp [errW_none, errW_some] <;> rfl) | (simp only [← hji2]; first | rfl | (simp [errW_none, errW_some] <;> rfl)) | (simp [*, errW_none, errW_some] <;> rfl), by repeat (first | (with_reducible first | exact HB.out | apply below_alloc | apply pw_below_drewN | apply below_drew1) | exact HB.out)⟩
                                        · replace c99 := Bool.eq_false_iff.mpr c99
                                          subst c99
                                          have H1 : (some false) = some r := by rw [if_neg (show ¬ (false = true) by decide)] at H; exact H
                                          clear H
                                          have H := H1
                                          clear H1
                                          obtain rfl := Option.some.inj H
                                          obtain ⟨Ao113, co113, eo113⟩ := Kd.R_slice HO_16.out
                                          subst eo113
                                          go_wp2_with (first | ((with_reducible refine gate_callee (f := 15) rfl ?_); refine goesL_ (some 138) rfl rfl Try.func15 (by kernel_rfl) rfl #[.slice Ao113 x16_5.length co113] rfl (by (try simp only [List.map_toArray, List.map_cons, List.map_nil]); first | done | rfl | (simp only [List.length_drop, List.length_take]; rfl)) ?_; (with_reducible refine (ripple_Run.calls _ _ x16_5 t219 t220 t221 _ ?side1 ?side2 A96.out).mono ?_); (case side1 => repeat (first | exact (Kd.R_reads' HO_16.out).2.2 | (with_reducible refine Kd.C_alloc ?_ _) | (with_reducible refine Kd.C_drewN ?_ _) | (with_reducible refine Kd.C_drew ?_))); (case side2 => exact (Kd.R_reads' HO_16.out).2.1); rintro e w114 ⟨v222, v224, rfl, ho0, ho1, hb⟩; refine ⟨_, rfl, ?_⟩; have n0_ := Aside0.mk (Kd.R_mono (Kd.R_told (Kd.R_told (Kd.R_old (by (with_reducible repeat (first | apply Kd.R_alloc | apply Kd.R_drewN | apply Kd.R_drew)); exact HO_6.out) hb) (Kd.R_base ho0)) (Kd.R_base ho1)) (fun _ h_ => h_.1)); have n1_ := Aside0.mk (Kd.R_below (by (with_reducible repeat (first | apply Kd.R_alloc | apply Kd.R_drewN | apply Kd.R_drew)); exact HO_16.out) hb); have n2_ := Aside0.mk (Kd.R_lower (Kd.R_new' ho0 (Kd.R_lt (by (with_reducible repeat (first | apply Kd.R_alloc | apply Kd.R_drewN | apply Kd.R_drew)); exact HO_6.out))) (below_size (by repeat (first | (with_reducible first | exact HB.out | apply below_alloc | apply pw_below_drewN | apply below_drew1) | exact HB.out)))); have n3_ := Aside0.mk (Kd.R_lower (Kd.R_new' ho1 (Kd.R_lt (by (with_reducible repeat (first | apply Kd.R_alloc | apply Kd.R_drewN | apply Kd.R_drew)); exact HO_6.out))) (below_size (by repeat (first | (with_reducible first | exact HB.out | apply below_alloc | apply pw_below_drewN | apply below_drew1) | exact HB.out)))); have n4_ := Aside0.mk (below_step (by repeat (first | (with_reducible first | exact HB.out | apply below_alloc | apply pw_below_drewN | apply below_drew1) | exact HB.out)) hb); clear HO_6; clear HO_16; clear HB; have HO_6 := n0_; have HO_16 := n1_; have HO223 := n2_; have HO225 := n3_; have HB := n4_; clear n0_ n1_ n2_ n3_ n4_; (try clear hb); (try clear hb2); (try clear hk); (try clear hi); (try clear ho0); (try clear ho1)) | ((with_reducible refine gate_callee (f := 13) rfl ?_); refine goesL_ (some 144) rfl rfl Try.func13 (by kernel_rfl) rfl #[.slice Ao85 x6_1.length co85] rfl (by (try simp only [List.map_toArray, List.map_cons, List.map_nil]); first | done | rfl | (simp only [List.length_drop, List.length_take]; rfl)) ?_; (with_reducible refine (ripple_Sorted.calls _ _ x6_1 t226 _ ?side1 ?side2 A97.out).mono ?_); (case side1 => repeat (first | exact (Kd.R_reads' HO_6.out).2.2 | (with_reducible refine Kd.C_alloc ?_ _) | (with_reducible refine Kd.C_drewN ?_ _) | (with_reducible refine Kd.C_drew ?_))); (case side2 => exact (Kd.R_reads' HO_6.out).2.1); rintro e w115 ⟨v227, rfl, ho0, hb⟩; refine ⟨_, rfl, ?_⟩; have n0_ := Aside0.mk (Kd.R_elder' (by (with_reducible repeat (first | apply Kd.R_alloc | apply Kd.R_drewN | apply Kd.R_drew)); exact HO_6.out) (Kd.R_base ho0) hb); have n1_ := Aside0.mk (Kd.R_below (by (with_reducible repeat (first | apply Kd.R_alloc | apply Kd.R_drewN | apply Kd.R_drew)); exact HO_16.out) hb); have n2_ := Aside0.mk (Kd.R_elder' (by (with_reducible repeat (first | apply Kd.R_alloc | apply Kd.R_drewN | apply Kd.R_drew)); exact HO223.out) (Kd.R_base ho0) hb); have n3_ := Aside0.mk (Kd.R_elder' (by (with_reducible repeat (first | apply Kd.R_alloc | apply Kd.R_drewN | apply Kd.R_drew)); exact HO225.out) (Kd.R_base ho0) hb); have n4_ := Aside0.mk (Kd.R_lower (Kd.R_new' (Kd.R_new' (Kd.R_new' ho0 (Kd.R_lt (by (with_reducible repeat (first | apply Kd.R_alloc | apply Kd.R_drewN | apply Kd.R_drew)); exact HO_6.out))) (Kd.R_lt (by (with_reducible repeat (first | apply Kd.R_alloc | apply Kd.R_drewN | apply Kd.R_drew)); exact HO223.out))) (Kd.R_lt (by (with_reducible repeat (first | apply Kd.R_alloc | apply Kd.R_drewN | apply Kd.R_drew)); exact HO225.out))) (below_size (by repeat (first | (with_reducible first | exact HB.out | apply below_alloc | apply pw_below_drewN | apply below_drew1) | exact HB.out)))); have n5_ := Aside0.mk (below_step (by repeat (first | (with_reducible first | exact HB.out | apply below_alloc | apply pw_below_drewN | apply below_drew1) | exact HB.out)) hb); clear HO_6; clear HO_16; clear HO223; clear HO225; clear HB; have HO_6 := n0_; have HO_16 := n1_; have HO223 := n2_; have HO225 := n3_; have HO228 := n4_; have HB := n5_; clear n0_ n1_ n2_ n3_ n4_ n5_; (try clear hb); (try clear hb2); (try clear hk); (try clear hi); (try clear ho0); obtain ⟨Ao116, co116, eo116⟩ := Kd.R_slice HO223.out; subst eo116; obtain ⟨Ao117, co117, eo117⟩ := Kd.R_slice HO228.out; subst eo117) | ((with_reducible refine gate_callee (f := 12) rfl ?_); refine goesL_ (some 145) rfl rfl Try.func12 (by kernel_rfl) rfl #[.slice Ao116 t219.length co116, .slice Ao117 t226.length co117] rfl (by (try simp only [List.map_toArray, List.map_cons, List.map_nil]); first | done | rfl | (simp only [List.length_drop, List.length_take]; rfl)) ?_; (with_reducible refine (downpourref14_Same.calls k5 _ _ t219 _ _ t226 false _ ?side1 ?side2 ?side3 ?side4 A98.out).mono ?_); (case side1 => repeat (first | exact (Kd.R_reads' HO223.out).2.2 | (with_reducible refine Kd.C_alloc ?_ _) | (with_reducible refine Kd.C_drewN ?_ _) | (with_reducible refine Kd.C_drew ?_))); (case side2 => exact (Kd.R_reads' HO223.out).2.1); (case side3 => repeat (first | exact (Kd.R_reads' HO228.out).2.2 | (with_reducible refine Kd.C_alloc ?_ _) | (with_reducible refine Kd.C_drewN ?_ _) | (with_reducible refine Kd.C_drew ?_))); (case side4 => exact (Kd.R_reads' HO228.out).2.1); rintro e w' ⟨rfl, ⟨nd, rfl⟩⟩; refine ⟨_, rfl, ?_⟩))
                                          go_ret
                                          exact ⟨by first | rfl | (simp [errW_none, errW_some] <;> rfl) | (simp only [← hji2]; first | rfl | (simp [errW_none, errW_some] <;> rfl)) | (simp [*, errW_none, errW_some] <;> rfl), by repeat (first | (with_reducible first | exact HB.out | apply below_alloc | apply pw_below_drewN | apply below_drew1) | exact HB.out)⟩
              · rw [if_neg c20] at H
                exact absurd H (by simp)
            · rw [if_neg c19] at H
              exact absurd H (by simp)
    · rw [if_neg c4] at H
      exact absurd H (by simp)
  · rw [if_neg c3] at H
    exact absurd H (by simp)

end Go.Proofs.Ytdkmmfhieapbaaa.P

/- Functions and their contracts, printed by stubprint.py (a program of this repo, which runs the kit's print with some functions proved by hand): each call answers what the plain function tells. -/
import Derived.Test.YtjgcfdiicjbdoaaPx0
import Derived.Test.YtjgcfdiicjbdoaaPx1
namespace Go.Proofs.Ytjgcfdiicjbdoaa.P
open Go.Proofs.Ytjgcfdiicjbdoaa.Own
open Go.RowKit Go.Proofs.YtjgcfdiicjbdoaaW.PrintWords Go.Proofs.YtjgcfdiicjbdoaaW.PrintLast Go.Proofs.YtjgcfdiicjbdoaaW.PrintMore
attribute [local go_sem] max2_int min2_int max_two min_two max_three min_three max_four min_four   -- for this text's walks alone
set_option linter.unusedVariables false
set_option linter.unusedSimpArgs false

/-! ### degree_root: function 20 -/
def degree_root.l0 : Nat → Int → Int → Int → Option (Int)
  | 0, _, _, _ => none
  | k + 1, x0, x3, x4 => if x4 > 0 then (if (wrap64 ((wrap64 (x3 + x4)) * (wrap64 (x3 + x4)))) ≤ x0 then (degree_root.l0 k x0 (wrap64 (x3 + x4)) (x4 / 2)) else (degree_root.l0 k x0 x3 (x4 / 2))) else (some x3)
def degree_root.f (k : Nat) (a0 : Int) : Option (Int) := degree_root.l0 k a0 0 32768
theorem degree_root.mono_l : ∀ k, (∀ y0 y1 y2, LeO (degree_root.l0 k y0 y1 y2) (degree_root.l0 (k + 1) y0 y1 y2))
  | 0 => fun _ _ _ r h => by simp [degree_root.l0] at h
  | k + 1 => by
    have ih0 := degree_root.mono_l k
    · intro y0 y1 y2
      unfold degree_root.l0
      repeat' first
      | (with_reducible exact ih0 _ _ _)
      | (with_reducible exact LeO.refl _)
      | (with_reducible exact LeO.none _)
      | (with_reducible refine LeO.ite ?_ ?_)
      | (with_reducible refine LeO.bind ?_ (fun _ => ?_))
      | exact ih0 _ _ _
      | exact LeO.none _
      | refine LeO.ite ?_ ?_
      | refine LeO.bind ?_ (fun _ => ?_)
theorem degree_root.mono : ∀ a0 k, LeO (degree_root.f k a0) (degree_root.f (k + 1) a0) := by
  intro a0 k
  have ih0 := degree_root.mono_l k
  unfold degree_root.f
  repeat' first
      | (with_reducible exact ih0 _ _ _)
      | (with_reducible exact LeO.refl _)
      | (with_reducible exact LeO.none _)
      | (with_reducible refine LeO.ite ?_ ?_)
      | (with_reducible refine LeO.bind ?_ (fun _ => ?_))
      | exact ih0 _ _ _
      | exact LeO.none _
      | refine LeO.ite ?_ ?_
      | refine LeO.bind ?_ (fun _ => ?_)
set_option maxHeartbeats 8000000 in
set_option maxRecDepth 100000 in
theorem degree_root.calls (k : Nat) (a0 : Int) (r : Int) (w : World) (h : degree_root.f k a0 = some r) :
    Calls Try.prog 20 #[.int .i64 a0] w fun e w' => e = .returned (.int .i64 r) ∧ Drawn0 w w' := by
  have H : (degree_root.l0 k a0 0 32768) = some r := h
  clear h
  have H' := Aside0.mk H
  clear H
  go_enter Try.func20, Try.ntmps20
  go_wp2
  go_loopg [3, 4] k (fun kq v3 v4 w' => ∃ (x3_1 : Int) (x4_1 : Int), v3 = .int .i64 x3_1 ∧ v4 = .int .i64 x4_1 ∧ Aside0 (degree_root.l0 kq a0 x3_1 x4_1 = some r) ∧ Aside0 (kq ≤ k) ∧ Drawn0 w w')
  case atStart => exact ⟨(0), (32768), (by first | rfl | (simp; done) | (simp [*]; done)), (by first | rfl | (simp; done) | (simp [*]; done)), H', ⟨Nat.le_refl _⟩, by repeat (first | exact Drawn0.refl _ | apply Drawn0.step)⟩
  case round =>
    clear H'
    obtain ⟨x3_1, x4_1, rfl, rfl, HA, HK1, ⟨m1, rfl⟩⟩ := hrel
    cases gk with
    | zero => exact absurd HA.out (by simp [degree_root.l0])
    | succ k1 =>
      have H := HA.out
      clear HA
      simp only [degree_root.l0] at H
      by_cases c2 : x4_1 > 0
      · rw [if_pos c2] at H
        have c2b0 : decide (0 < x4_1) = true := decide_eq_true c2
        clear c2
        by_cases c3 : (wrap64 ((wrap64 (x3_1 + x4_1)) * (wrap64 (x3_1 + x4_1)))) ≤ a0
        · rw [if_pos c3] at H
          have c3b0 : decide ((wrap64 ((wrap64 (x3_1 + x4_1)) * (wrap64 (x3_1 + x4_1)))) ≤ a0) = true := decide_eq_true c3
          clear c3
          have H' := Aside0.mk H
          clear H
          go_wp2
          go_roundg k1
          case measure => have := HK1.out; omega
          case rel => exact ⟨(wrap64 (x3_1 + x4_1)), (x4_1 / 2), (by first | rfl | (simp; done) | (simp [*]; done)), (by first | rfl | (simp; done) | (simp [*]; done)), H', ⟨by have := HK1.out; omega⟩, by repeat (first | exact Drawn0.refl _ | apply Drawn0.step)⟩
        · rw [if_neg c3] at H
          have c3b0 : decide ((wrap64 ((wrap64 (x3_1 + x4_1)) * (wrap64 (x3_1 + x4_1)))) ≤ a0) = false := decide_eq_false c3
          clear c3
          have H' := Aside0.mk H
          clear H
          go_wp2
          go_roundg k1
          case measure => have := HK1.out; omega
          case rel => exact ⟨(x3_1), (x4_1 / 2), (by first | rfl | (simp; done) | (simp [*]; done)), (by first | rfl | (simp; done) | (simp [*]; done)), H', ⟨by have := HK1.out; omega⟩, by repeat (first | exact Drawn0.refl _ | apply Drawn0.step)⟩
      · rw [if_neg c2] at H
        have c2b0 : decide (0 < x4_1) = false := decide_eq_false c2
        clear c2
        obtain rfl := Option.some.inj H
        go_wp2
        go_ret
        exact ⟨by first | rfl | (simp; done) | (simp [*]; done), by repeat (first | exact Drawn0.refl _ | apply Drawn0.step)⟩

/-! ### degree_Root: function 11 -/
def degree_Root.f (k : Nat) (a0 : Int) : Option (Int × Int) := if a0 < 0 then (some (0, 2)) else (if a0 > 2147483647 then (some (0, 2)) else ((degree_root.f k a0).bind fun t118 => (some (t118, 0))))
theorem degree_Root.mono : ∀ a0 k, LeO (degree_Root.f k a0) (degree_Root.f (k + 1) a0) := by
  intro a0 k
  unfold degree_Root.f
  repeat' first
      | (with_reducible exact degree_root.mono _ _)
      | (with_reducible exact LeO.refl _)
      | (with_reducible exact LeO.none _)
      | (with_reducible refine LeO.ite ?_ ?_)
      | (with_reducible refine LeO.bind ?_ (fun _ => ?_))
      | exact degree_root.mono _ _
      | exact LeO.none _
      | refine LeO.ite ?_ ?_
      | refine LeO.bind ?_ (fun _ => ?_)
set_option maxHeartbeats 8000000 in
set_option maxRecDepth 100000 in
theorem degree_Root.calls (k : Nat) (a0 : Int) (r1 : Int) (r2 : Int) (w : World) (h : degree_Root.f k a0 = some (r1, r2)) :
    Calls Try.prog 11 #[.int .i64 a0] w fun e w' => e = .returned (.tuple #[.int .i64 r1, .int .i64 r2]) ∧ Drawn0 w w' := by
  have H : (if a0 < 0 then (some (0, 2)) else (if a0 > 2147483647 then (some (0, 2)) else ((degree_root.f k a0).bind fun t118 => (some (t118, 0))))) = some (r1, r2) := h
  clear h
  by_cases c2 : a0 < 0
  · rw [if_pos c2] at H
    have c2b0 : decide (a0 < 0) = true := decide_eq_true c2
    clear c2
    simp only [Option.some.injEq, Prod.mk.injEq] at H
    obtain ⟨rfl, rfl⟩ := H
    go_enter Try.func11, Try.ntmps11
    go_wp2
    go_ret2
    exact ⟨by first | rfl | (simp; done) | (simp [*]; done), by repeat (first | exact Drawn0.refl _ | apply Drawn0.step)⟩
  · rw [if_neg c2] at H
    have c2b0 : decide (a0 < 0) = false := decide_eq_false c2
    clear c2
    by_cases c3 : a0 > 2147483647
    · rw [if_pos c3] at H
      have c3b0 : decide (2147483647 < a0) = true := decide_eq_true c3
      clear c3
      simp only [Option.some.injEq, Prod.mk.injEq] at H
      obtain ⟨rfl, rfl⟩ := H
      go_enter Try.func11, Try.ntmps11
      go_wp2
      go_ret2
      exact ⟨by first | rfl | (simp; done) | (simp [*]; done), by repeat (first | exact Drawn0.refl _ | apply Drawn0.step)⟩
    · rw [if_neg c3] at H
      have c3b0 : decide (2147483647 < a0) = false := decide_eq_false c3
      clear c3
      replace H := Option.bind_eq_some_iff.mp H
      obtain ⟨t118, A40, H⟩ := H
      replace H : (some (t118, 0)) = some (r1, r2) := H
      have A4 := Aside0.mk A40
      clear A40
      simp only [Option.some.injEq, Prod.mk.injEq] at H
      obtain ⟨rfl, rfl⟩ := H
      go_enter Try.func11, Try.ntmps11
      go_wp2_with (first | ((with_reducible refine gate_callee (f := 20) rfl ?_); refine goesL_ (some 11) rfl rfl Try.func20 (by kernel_rfl) rfl #[.int .i64 a0] rfl (by (try simp only [List.map_toArray, List.map_cons, List.map_nil]); first | done | rfl | (simp only [List.length_drop, List.length_take]; rfl)) ?_; (with_reducible refine (degree_root.calls k a0 t118 _ A4.out).mono ?_); rintro e w' ⟨rfl, ⟨nd, rfl⟩⟩; refine ⟨_, rfl, ?_⟩))
      go_ret2
      exact ⟨by first | rfl | (simp; done) | (simp [*]; done), by repeat (first | exact Drawn0.refl _ | apply Drawn0.step)⟩

/-! ### downpourlaw07_DegreeRoots: function 4 -/
def downpourlaw07_DegreeRoots.f (k : Nat) (a0 : Int) : Option (Bool) := (degree_Root.f k (Int.tmod (wrap64 ((Int.tmod a0 46340) + 46340)) 46340)).bind fun bt119 => ((degree_Root.f k (wrap64 ((Int.tmod (wrap64 ((Int.tmod a0 46340) + 46340)) 46340) + 1))).bind fun bt121 => ((degree_Root.f k (wrap64 ((Int.tmod (wrap64 ((Int.tmod a0 46340) + 46340)) 46340) * (Int.tmod (wrap64 ((Int.tmod a0 46340) + 46340)) 46340)))).bind fun bt123 => ((degree_Root.f k (wrap64 ((wrap64 ((Int.tmod (wrap64 ((Int.tmod a0 46340) + 46340)) 46340) * (Int.tmod (wrap64 ((Int.tmod a0 46340) + 46340)) 46340))) + (wrap64 (2 * (Int.tmod (wrap64 ((Int.tmod a0 46340) + 46340)) 46340)))))).bind fun bt125 => ((downpourlaw07_alive.f).bind fun t127 => (if t127 = true then (if bt119.2 = 0 then (if bt121.2 = 0 then (if bt123.2 = 0 then (if bt125.2 = 0 then (if bt121.1 = bt119.1 then (if bt123.1 = (Int.tmod (wrap64 ((Int.tmod a0 46340) + 46340)) 46340) then (some (bt125.1 == (Int.tmod (wrap64 ((Int.tmod a0 46340) + 46340)) 46340))) else (some false)) else (if bt121.1 = (wrap64 (bt119.1 + 1)) then (if bt123.1 = (Int.tmod (wrap64 ((Int.tmod a0 46340) + 46340)) 46340) then (some (bt125.1 == (Int.tmod (wrap64 ((Int.tmod a0 46340) + 46340)) 46340))) else (some false)) else (some false))) else (some false)) else (some false)) else (some false)) else (some false)) else (some false))))))
theorem downpourlaw07_DegreeRoots.mono : ∀ a0 k, LeO (downpourlaw07_DegreeRoots.f k a0) (downpourlaw07_DegreeRoots.f (k + 1) a0) := by
  intro a0 k
  unfold downpourlaw07_DegreeRoots.f
  repeat' first
      | (with_reducible exact degree_Root.mono _ _)
      | (with_reducible exact LeO.refl _)
      | (with_reducible exact LeO.none _)
      | (with_reducible refine LeO.ite ?_ ?_)
      | (with_reducible refine LeO.bind ?_ (fun _ => ?_))
      | exact degree_Root.mono _ _
      | exact LeO.none _
      | refine LeO.ite ?_ ?_
      | refine LeO.bind ?_ (fun _ => ?_)
set_option maxHeartbeats 8000000 in
set_option maxRecDepth 100000 in
theorem downpourlaw07_DegreeRoots.calls (k : Nat) (a0 : Int) (r : Bool) (w : World) (h : downpourlaw07_DegreeRoots.f k a0 = some r) :
    Calls Try.prog 4 #[.int .i64 a0] w fun e w' => e = .returned (.bool r) ∧ Below w.heap.size w w' := by
  have HB := Aside0.mk (Below.refl w.heap.size w)
  have H : ((degree_Root.f k (Int.tmod (wrap64 ((Int.tmod a0 46340) + 46340)) 46340)).bind fun bt119 => ((degree_Root.f k (wrap64 ((Int.tmod (wrap64 ((Int.tmod a0 46340) + 46340)) 46340) + 1))).bind fun bt121 => ((degree_Root.f k (wrap64 ((Int.tmod (wrap64 ((Int.tmod a0 46340) + 46340)) 46340) * (Int.tmod (wrap64 ((Int.tmod a0 46340) + 46340)) 46340)))).bind fun bt123 => ((degree_Root.f k (wrap64 ((wrap64 ((Int.tmod (wrap64 ((Int.tmod a0 46340) + 46340)) 46340) * (Int.tmod (wrap64 ((Int.tmod a0 46340) + 46340)) 46340))) + (wrap64 (2 * (Int.tmod (wrap64 ((Int.tmod a0 46340) + 46340)) 46340)))))).bind fun bt125 => ((downpourlaw07_alive.f).bind fun t127 => (if t127 = true then (if bt119.2 = 0 then (if bt121.2 = 0 then (if bt123.2 = 0 then (if bt125.2 = 0 then (if bt121.1 = bt119.1 then (if bt123.1 = (Int.tmod (wrap64 ((Int.tmod a0 46340) + 46340)) 46340) then (some (bt125.1 == (Int.tmod (wrap64 ((Int.tmod a0 46340) + 46340)) 46340))) else (some false)) else (if bt121.1 = (wrap64 (bt119.1 + 1)) then (if bt123.1 = (Int.tmod (wrap64 ((Int.tmod a0 46340) + 46340)) 46340) then (some (bt125.1 == (Int.tmod (wrap64 ((Int.tmod a0 46340) + 46340)) 46340))) else (some false)) else (some false))) else (some false)) else (some false)) else (some false)) else (some false)) else (some false))))))) = some r := h
  clear h
  replace H := Option.bind_eq_some_iff.mp H
  obtain ⟨⟨t119, t120⟩, A20, H⟩ := H
  replace H : ((degree_Root.f k (wrap64 ((Int.tmod (wrap64 ((Int.tmod a0 46340) + 46340)) 46340) + 1))).bind fun bt121 => ((degree_Root.f k (wrap64 ((Int.tmod (wrap64 ((Int.tmod a0 46340) + 46340)) 46340) * (Int.tmod (wrap64 ((Int.tmod a0 46340) + 46340)) 46340)))).bind fun bt123 => ((degree_Root.f k (wrap64 ((wrap64 ((Int.tmod (wrap64 ((Int.tmod a0 46340) + 46340)) 46340) * (Int.tmod (wrap64 ((Int.tmod a0 46340) + 46340)) 46340))) + (wrap64 (2 * (Int.tmod (wrap64 ((Int.tmod a0 46340) + 46340)) 46340)))))).bind fun bt125 => ((downpourlaw07_alive.f).bind fun t127 => (if t127 = true then (if t120 = 0 then (if bt121.2 = 0 then (if bt123.2 = 0 then (if bt125.2 = 0 then (if bt121.1 = t119 then (if bt123.1 = (Int.tmod (wrap64 ((Int.tmod a0 46340) + 46340)) 46340) then (some (bt125.1 == (Int.tmod (wrap64 ((Int.tmod a0 46340) + 46340)) 46340))) else (some false)) else (if bt121.1 = (wrap64 (t119 + 1)) then (if bt123.1 = (Int.tmod (wrap64 ((Int.tmod a0 46340) + 46340)) 46340) then (some (bt125.1 == (Int.tmod (wrap64 ((Int.tmod a0 46340) + 46340)) 46340))) else (some false)) else (some false))) else (some false)) else (some false)) else (some false)) else (some false)) else (some false)))))) = some r := H
  have A2 := Aside0.mk A20
  clear A20
  replace H := Option.bind_eq_some_iff.mp H
  obtain ⟨⟨t121, t122⟩, A30, H⟩ := H
  replace H : ((degree_Root.f k (wrap64 ((Int.tmod (wrap64 ((Int.tmod a0 46340) + 46340)) 46340) * (Int.tmod (wrap64 ((Int.tmod a0 46340) + 46340)) 46340)))).bind fun bt123 => ((degree_Root.f k (wrap64 ((wrap64 ((Int.tmod (wrap64 ((Int.tmod a0 46340) + 46340)) 46340) * (Int.tmod (wrap64 ((Int.tmod a0 46340) + 46340)) 46340))) + (wrap64 (2 * (Int.tmod (wrap64 ((Int.tmod a0 46340) + 46340)) 46340)))))).bind fun bt125 => ((downpourlaw07_alive.f).bind fun t127 => (if t127 = true then (if t120 = 0 then (if t122 = 0 then (if bt123.2 = 0 then (if bt125.2 = 0 then (if t121 = t119 then (if bt123.1 = (Int.tmod (wrap64 ((Int.tmod a0 46340) + 46340)) 46340) then (some (bt125.1 == (Int.tmod (wrap64 ((Int.tmod a0 46340) + 46340)) 46340))) else (some false)) else (if t121 = (wrap64 (t119 + 1)) then (if bt123.1 = (Int.tmod (wrap64 ((Int.tmod a0 46340) + 46340)) 46340) then (some (bt125.1 == (Int.tmod (wrap64 ((Int.tmod a0 46340) + 46340)) 46340))) else (some false)) else (some false))) else (some false)) else (some false)) else (some false)) else (some false)) else (some false))))) = some r := H
  have A3 := Aside0.mk A30
  clear A30
  replace H := Option.bind_eq_some_iff.mp H
  obtain ⟨⟨t123, t124⟩, A40, H⟩ := H
  replace H : ((degree_Root.f k (wrap64 ((wrap64 ((Int.tmod (wrap64 ((Int.tmod a0 46340) + 46340)) 46340) * (Int.tmod (wrap64 ((Int.tmod a0 46340) + 46340)) 46340))) + (wrap64 (2 * (Int.tmod (wrap64 ((Int.tmod a0 46340) + 46340)) 46340)))))).bind fun bt125 => ((downpourlaw07_alive.f).bind fun t127 => (if t127 = true then (if t120 = 0 then (if t122 = 0 then (if t124 = 0 then (if bt125.2 = 0 then (if t121 = t119 then (if t123 = (Int.tmod (wrap64 ((Int.tmod a0 46340) + 46340)) 46340) then (some (bt125.1 == (Int.tmod (wrap64 ((Int.tmod a0 46340) + 46340)) 46340))) else (some false)) else (if t121 = (wrap64 (t119 + 1)) then (if t123 = (Int.tmod (wrap64 ((Int.tmod a0 46340) + 46340)) 46340) then (some (bt125.1 == (Int.tmod (wrap64 ((Int.tmod a0 46340) + 46340)) 46340))) else (some false)) else (some false))) else (some false)) else (some false)) else (some false)) else (some false)) else (some false)))) = some r := H
  have A4 := Aside0.mk A40
  clear A40
  replace H := Option.bind_eq_some_iff.mp H
  obtain ⟨⟨t125, t126⟩, A50, H⟩ := H
  replace H : ((downpourlaw07_alive.f).bind fun t127 => (if t127 = true then (if t120 = 0 then (if t122 = 0 then (if t124 = 0 then (if t126 = 0 then (if t121 = t119 then (if t123 = (Int.tmod (wrap64 ((Int.tmod a0 46340) + 46340)) 46340) then (some (t125 == (Int.tmod (wrap64 ((Int.tmod a0 46340) + 46340)) 46340))) else (some false)) else (if t121 = (wrap64 (t119 + 1)) then (if t123 = (Int.tmod (wrap64 ((Int.tmod a0 46340) + 46340)) 46340) then (some (t125 == (Int.tmod (wrap64 ((Int.tmod a0 46340) + 46340)) 46340))) else (some false)) else (some false))) else (some false)) else (some false)) else (some false)) else (some false)) else (some false))) = some r := H
  have A5 := Aside0.mk A50
  clear A50
  replace H := Option.bind_eq_some_iff.mp H
  obtain ⟨t127, A60, H⟩ := H
  replace H : (if t127 = true then (if t120 = 0 then (if t122 = 0 then (if t124 = 0 then (if t126 = 0 then (if t121 = t119 then (if t123 = (Int.tmod (wrap64 ((Int.tmod a0 46340) + 46340)) 46340) then (some (t125 == (Int.tmod (wrap64 ((Int.tmod a0 46340) + 46340)) 46340))) else (some false)) else (if t121 = (wrap64 (t119 + 1)) then (if t123 = (Int.tmod (wrap64 ((Int.tmod a0 46340) + 46340)) 46340) then (some (t125 == (Int.tmod (wrap64 ((Int.tmod a0 46340) + 46340)) 46340))) else (some false)) else (some false))) else (some false)) else (some false)) else (some false)) else (some false)) else (some false)) = some r := H
  have A6 := Aside0.mk A60
  clear A60
  by_cases c7 : t127 = true
  · subst c7
    have H1 : (if t120 = 0 then (if t122 = 0 then (if t124 = 0 then (if t126 = 0 then (if t121 = t119 then (if t123 = (Int.tmod (wrap64 ((Int.tmod a0 46340) + 46340)) 46340) then (some (t125 == (Int.tmod (wrap64 ((Int.tmod a0 46340) + 46340)) 46340))) else (some false)) else (if t121 = (wrap64 (t119 + 1)) then (if t123 = (Int.tmod (wrap64 ((Int.tmod a0 46340) + 46340)) 46340) then (some (t125 == (Int.tmod (wrap64 ((Int.tmod a0 46340) + 46340)) 46340))) else (some false)) else (some false))) else (some false)) else (some false)) else (some false)) else (some false)) = some r := by rw [if_pos rfl] at H; exact H
    clear H
    have H := H1
    clear H1
    by_cases c8 : t120 = 0
    · rw [if_pos c8] at H
      have c8b0 : (t120 == 0) = true := beq_iff_eq.mpr c8
      have c8b1 : (t120 != 0) = false := bne_eq_false_iff_eq.mpr c8
      clear c8
      by_cases c9 : t122 = 0
      · rw [if_pos c9] at H
        have c9b0 : (t122 == 0) = true := beq_iff_eq.mpr c9
        have c9b1 : (t122 != 0) = false := bne_eq_false_iff_eq.mpr c9
        clear c9
        by_cases c10 : t124 = 0
        · rw [if_pos c10] at H
          have c10b0 : (t124 == 0) = true := beq_iff_eq.mpr c10
          have c10b1 : (t124 != 0) = false := bne_eq_false_iff_eq.mpr c10
          clear c10
          by_cases c11 : t126 = 0
          · rw [if_pos c11] at H
            have c11b0 : (t126 == 0) = true := beq_iff_eq.mpr c11
            have c11b1 : (t126 != 0) = false := bne_eq_false_iff_eq.mpr c11
            clear c11
            by_cases c12 : t121 = t119
            · rw [if_pos c12] at H
              have c12b0 : (t121 == t119) = true := beq_iff_eq.mpr c12
              have c12b1 : (t121 != t119) = false := bne_eq_false_iff_eq.mpr c12
              clear c12
              by_cases c13 : t123 = (Int.tmod (wrap64 ((Int.tmod a0 46340) + 46340)) 46340)
              · rw [if_pos c13] at H
                have c13b0 : (t123 == (Int.tmod (wrap64 ((Int.tmod a0 46340) + 46340)) 46340)) = true := beq_iff_eq.mpr c13
                have c13b1 : (t123 != (Int.tmod (wrap64 ((Int.tmod a0 46340) + 46340)) 46340)) = false := bne_eq_false_iff_eq.mpr c13
                clear c13
                obtain rfl := Option.some.inj H
                go_enter Try.func4, Try.ntmps4
                go_wp2_with (first | ((with_reducible refine gate_callee (f := 11) rfl ?_); refine goesL_ (some 17) rfl rfl Try.func11 (by kernel_rfl) rfl #[.int .i64 (Int.tmod (wrap64 ((Int.tmod a0 46340) + 46340)) 46340)] rfl (by (try simp only [List.map_toArray, List.map_cons, List.map_nil]); first | done | rfl | (simp only [List.length_drop, List.length_take]; rfl)) ?_; (with_reducible refine (degree_Root.calls k (Int.tmod (wrap64 ((Int.tmod a0 46340) + 46340)) 46340) t119 t120 _ A2.out).mono ?_); rintro e w' ⟨rfl, ⟨nd, rfl⟩⟩; refine ⟨_, rfl, ?_⟩) | ((with_reducible refine gate_callee (f := 11) rfl ?_); refine goesL_ (some 23) rfl rfl Try.func11 (by kernel_rfl) rfl #[.int .i64 (wrap64 ((Int.tmod (wrap64 ((Int.tmod a0 46340) + 46340)) 46340) + 1))] rfl (by (try simp only [List.map_toArray, List.map_cons, List.map_nil]); first | done | rfl | (simp only [List.length_drop, List.length_take]; rfl)) ?_; (with_reducible refine (degree_Root.calls k (wrap64 ((Int.tmod (wrap64 ((Int.tmod a0 46340) + 46340)) 46340) + 1)) t121 t122 _ A3.out).mono ?_); rintro e w' ⟨rfl, ⟨nd, rfl⟩⟩; refine ⟨_, rfl, ?_⟩) | ((with_reducible refine gate_callee (f := 11) rfl ?_); refine goesL_ (some 30) rfl rfl Try.func11 (by kernel_rfl) rfl #[.int .i64 (wrap64 ((Int.tmod (wrap64 ((Int.tmod a0 46340) + 46340)) 46340) * (Int.tmod (wrap64 ((Int.tmod a0 46340) + 46340)) 46340)))] rfl (by (try simp only [List.map_toArray, List.map_cons, List.map_nil]); first | done | rfl | (simp only [List.length_drop, List.length_take]; rfl)) ?_; (with_reducible refine (degree_Root.calls k (wrap64 ((Int.tmod (wrap64 ((Int.tmod a0 46340) + 46340)) 46340) * (Int.tmod (wrap64 ((Int.tmod a0 46340) + 46340)) 46340))) t123 t124 _ A4.out).mono ?_); rintro e w' ⟨rfl, ⟨nd, rfl⟩⟩; refine ⟨_, rfl, ?_⟩) | ((with_reducible refine gate_callee (f := 11) rfl ?_); refine goesL_ (some 40) rfl rfl Try.func11 (by kernel_rfl) rfl #[.int .i64 (wrap64 ((wrap64 ((Int.tmod (wrap64 ((Int.tmod a0 46340) + 46340)) 46340) * (Int.tmod (wrap64 ((Int.tmod a0 46340) + 46340)) 46340))) + (wrap64 (2 * (Int.tmod (wrap64 ((Int.tmod a0 46340) + 46340)) 46340)))))] rfl (by (try simp only [List.map_toArray, List.map_cons, List.map_nil]); first | done | rfl | (simp only [List.length_drop, List.length_take]; rfl)) ?_; (with_reducible refine (degree_Root.calls k (wrap64 ((wrap64 ((Int.tmod (wrap64 ((Int.tmod a0 46340) + 46340)) 46340) * (Int.tmod (wrap64 ((Int.tmod a0 46340) + 46340)) 46340))) + (wrap64 (2 * (Int.tmod (wrap64 ((Int.tmod a0 46340) + 46340)) 46340))))) t125 t126 _ A5.out).mono ?_); rintro e w' ⟨rfl, ⟨nd, rfl⟩⟩; refine ⟨_, rfl, ?_⟩) | ((with_reducible refine gate_callee (f := 9) rfl ?_); refine goesL_ (some 43) rfl rfl Try.func9 (by kernel_rfl) rfl #[] rfl (by (try simp only [List.map_toArray, List.map_cons, List.map_nil]); first | done | rfl | (simp only [List.length_drop, List.length_take]; rfl)) ?_; (with_reducible refine (downpourlaw07_alive.calls  true _ A6.out).mono ?_); rintro e w14 ⟨rfl, hb⟩; refine ⟨_, rfl, ?_⟩; have n0_ := Aside0.mk (below_step (by repeat (first | (with_reducible first | exact HB.out | apply below_alloc | apply pw_below_drewN | apply below_drew1) | exact HB.out)) hb); clear HB; have HB := n0_; clear n0_; (try clear hb); (try clear hb2); (try clear hk); (try clear hi)))
                go_ret
                exact ⟨by first | rfl | (simp [errW_none, errW_some] <;> rfl) | (simp [*, errW_none, errW_some] <;> rfl), by repeat (first | (with_reducible first | exact HB.out | apply below_alloc | apply pw_below_drewN | apply below_drew1) | exact HB.out)⟩
              · rw [if_neg c13] at H
                have c13b0 : (t123 == (Int.tmod (wrap64 ((Int.tmod a0 46340) + 46340)) 46340)) = false := beq_eq_false_iff_ne.mpr c13
                have c13b1 : (t123 != (Int.tmod (wrap64 ((Int.tmod a0 46340) + 46340)) 46340)) = true := bne_iff_ne.mpr c13
                obtain rfl := Option.some.inj H
                go_enter Try.func4, Try.ntmps4
                go_wp2_with (first | ((with_reducible refine gate_callee (f := 11) rfl ?_); refine goesL_ (some 17) rfl rfl Try.func11 (by kernel_rfl) rfl #[.int .i64 (Int.tmod (wrap64 ((Int.tmod a0 46340) + 46340)) 46340)] rfl (by (try simp only [List.map_toArray, List.map_cons, List.map_nil]); first | done | rfl | (simp only [List.length_drop, List.length_take]; rfl)) ?_; (with_reducible refine (degree_Root.calls k (Int.tmod (wrap64 ((Int.tmod a0 46340) + 46340)) 46340) t119 t120 _ A2.out).mono ?_); rintro e w' ⟨rfl, ⟨nd, rfl⟩⟩; refine ⟨_, rfl, ?_⟩) | ((with_reducible refine gate_callee (f := 11) rfl ?_); refine goesL_ (some 23) rfl rfl Try.func11 (by kernel_rfl) rfl #[.int .i64 (wrap64 ((Int.tmod (wrap64 ((Int.tmod a0 46340) + 46340)) 46340) + 1))] rfl (by (try simp only [List.map_toArray, List.map_cons, List.map_nil]); first | done | rfl | (simp only [List.length_drop, List.length_take]; rfl)) ?_; (with_reducible refine (degree_Root.calls k (wrap64 ((Int.tmod (wrap64 ((Int.tmod a0 46340) + 46340)) 46340) + 1)) t121 t122 _ A3.out).mono ?_); rintro e w' ⟨rfl, ⟨nd, rfl⟩⟩; refine ⟨_, rfl, ?_⟩) | ((with_reducible refine gate_callee (f := 11) rfl ?_); refine goesL_ (some 30) rfl rfl Try.func11 (by kernel_rfl) rfl #[.int .i64 (wrap64 ((Int.tmod (wrap64 ((Int.tmod a0 46340) + 46340)) 46340) * (Int.tmod (wrap64 ((Int.tmod a0 46340) + 46340)) 46340)))] rfl (by (try simp only [List.map_toArray, List.map_cons, List.map_nil]); first | done | rfl | (simp only [List.length_drop, List.length_take]; rfl)) ?_; (with_reducible refine (degree_Root.calls k (wrap64 ((Int.tmod (wrap64 ((Int.tmod a0 46340) + 46340)) 46340) * (Int.tmod (wrap64 ((Int.tmod a0 46340) + 46340)) 46340))) t123 t124 _ A4.out).mono ?_); rintro e w' ⟨rfl, ⟨nd, rfl⟩⟩; refine ⟨_, rfl, ?_⟩) | ((with_reducible refine gate_callee (f := 11) rfl ?_); refine goesL_ (some 40) rfl rfl Try.func11 (by kernel_rfl) rfl #[.int .i64 (wrap64 ((wrap64 ((Int.tmod (wrap64 ((Int.tmod a0 46340) + 46340)) 46340) * (Int.tmod (wrap64 ((Int.tmod a0 46340) + 46340)) 46340))) + (wrap64 (2 * (Int.tmod (wrap64 ((Int.tmod a0 46340) + 46340)) 46340)))))] rfl (by (try simp only [List.map_toArray, List.map_cons, List.map_nil]); first | done | rfl | (simp only [List.length_drop, List.length_take]; rfl)) ?_; (with_reducible refine (degree_Root.calls k (wrap64 ((wrap64 ((Int.tmod (wrap64 ((Int.tmod a0 46340) + 46340)) 46340) * (Int.tmod (wrap64 ((Int.tmod a0 46340) + 46340)) 46340))) + (wrap64 (2 * (Int.tmod (wrap64 ((Int.tmod a0 46340) + 46340)) 46340))))) t125 t126 _ A5.out).mono ?_); rintro e w' ⟨rfl, ⟨nd, rfl⟩⟩; refine ⟨_, rfl, ?_⟩) | ((with_reducible refine gate_callee (f := 9) rfl ?_); refine goesL_ (some 43) rfl rfl Try.func9 (by kernel_rfl) rfl #[] rfl (by (try simp only [List.map_toArray, List.map_cons, List.map_nil]); first | done | rfl | (simp only [List.length_drop, List.length_take]; rfl)) ?_; (with_reducible refine (downpourlaw07_alive.calls  true _ A6.out).mono ?_); rintro e w15 ⟨rfl, hb⟩; refine ⟨_, rfl, ?_⟩; have n0_ := Aside0.mk (below_step (by repeat (first | (with_reducible first | exact HB.out | apply below_alloc | apply pw_below_drewN | apply below_drew1) | exact HB.out)) hb); clear HB; have HB := n0_; clear n0_; (try clear hb); (try clear hb2); (try clear hk); (try clear hi)))
                go_ret
                exact ⟨by first | rfl | (simp [errW_none, errW_some] <;> rfl) | (simp [*, errW_none, errW_some] <;> rfl), by repeat (first | (with_reducible first | exact HB.out | apply below_alloc | apply pw_below_drewN | apply below_drew1) | exact HB.out)⟩
            · rw [if_neg c12] at H
              have c12b0 : (t121 == t119) = false := beq_eq_false_iff_ne.mpr c12
              have c12b1 : (t121 != t119) = true := bne_iff_ne.mpr c12
              by_cases c16 : t121 = (wrap64 (t119 + 1))
              · rw [if_pos c16] at H
                have c16b0 : (t121 == (wrap64 (t119 + 1))) = true := beq_iff_eq.mpr c16
                have c16b1 : (t121 != (wrap64 (t119 + 1))) = false := bne_eq_false_iff_eq.mpr c16
                clear c16
                by_cases c17 : t123 = (Int.tmod (wrap64 ((Int.tmod a0 46340) + 46340)) 46340)
                · rw [if_pos c17] at H
                  have c17b0 : (t123 == (Int.tmod (wrap64 ((Int.tmod a0 46340) + 46340)) 46340)) = true := beq_iff_eq.mpr c17
                  have c17b1 : (t123 != (Int.tmod (wrap64 ((Int.tmod a0 46340) + 46340)) 46340)) = false := bne_eq_false_iff_eq.mpr c17
                  clear c17
                  obtain rfl := Option.some.inj H
                  go_enter Try.func4, Try.ntmps4
                  go_wp2_with (first | ((with_reducible refine gate_callee (f := 11) rfl ?_); refine goesL_ (some 17) rfl rfl Try.func11 (by kernel_rfl) rfl #[.int .i64 (Int.tmod (wrap64 ((Int.tmod a0 46340) + 46340)) 46340)] rfl (by (try simp only [List.map_toArray, List.map_cons, List.map_nil]); first | done | rfl | (simp only [List.length_drop, List.length_take]; rfl)) ?_; (with_reducible refine (degree_Root.calls k (Int.tmod (wrap64 ((Int.tmod a0 46340) + 46340)) 46340) t119 t120 _ A2.out).mono ?_); rintro e w' ⟨rfl, ⟨nd, rfl⟩⟩; refine ⟨_, rfl, ?_⟩) | ((with_reducible refine gate_callee (f := 11) rfl ?_); refine goesL_ (some 23) rfl rfl Try.func11 (by kernel_rfl) rfl #[.int .i64 (wrap64 ((Int.tmod (wrap64 ((Int.tmod a0 46340) + 46340)) 46340) + 1))] rfl (by (try simp only [List.map_toArray, List.map_cons, List.map_nil]); first | done | rfl | (simp only [List.length_drop, List.length_take]; rfl)) ?_; (with_reducible refine (degree_Root.calls k (wrap64 ((Int.tmod (wrap64 ((Int.tmod a0 46340) + 46340)) 46340) + 1)) t121 t122 _ A3.out).mono ?_); rintro e w' ⟨rfl, ⟨nd, rfl⟩⟩; refine ⟨_, rfl, ?_⟩) | ((with_reducible refine gate_callee (f := 11) rfl ?_); refine goesL_ (some 30) rfl rfl Try.func11 (by kernel_rfl) rfl #[.int .i64 (wrap64 ((Int.tmod (wrap64 ((Int.tmod a0 46340) + 46340)) 46340) * (Int.tmod (wrap64 ((Int.tmod a0 46340) + 46340)) 46340)))] rfl (by (try simp only [List.map_toArray, List.map_cons, List.map_nil]); first | done | rfl | (simp only [List.length_drop, List.length_take]; rfl)) ?_; (with_reducible refine (degree_Root.calls k (wrap64 ((Int.tmod (wrap64 ((Int.tmod a0 46340) + 46340)) 46340) * (Int.tmod (wrap64 ((Int.tmod a0 46340) + 46340)) 46340))) t123 t124 _ A4.out).mono ?_); rintro e w' ⟨rfl, ⟨nd, rfl⟩⟩; refine ⟨_, rfl, ?_⟩) | ((with_reducible refine gate_callee (f := 11) rfl ?_); refine goesL_ (some 40) rfl rfl Try.func11 (by kernel_rfl) rfl #[.int .i64 (wrap64 ((wrap64 ((Int.tmod (wrap64 ((Int.tmod a0 46340) + 46340)) 46340) * (Int.tmod (wrap64 ((Int.tmod a0 46340) + 46340)) 46340))) + (wrap64 (2 * (Int.tmod (wrap64 ((Int.tmod a0 46340) + 46340)) 46340)))))] rfl (by (try simp only [List.map_toArray, List.map_cons, List.map_nil]); first | done | rfl | (simp only [List.length_drop, List.length_take]; rfl)) ?_; (with_reducible refine (degree_Root.calls k (wrap64 ((wrap64 ((Int.tmod (wrap64 ((Int.tmod a0 46340) + 46340)) 46340) * (Int.tmod (wrap64 ((Int.tmod a0 46340) + 46340)) 46340))) + (wrap64 (2 * (Int.tmod (wrap64 ((Int.tmod a0 46340) + 46340)) 46340))))) t125 t126 _ A5.out).mono ?_); rintro e w' ⟨rfl, ⟨nd, rfl⟩⟩; refine ⟨_, rfl, ?_⟩) | ((with_reducible refine gate_callee (f := 9) rfl ?_); refine goesL_ (some 43) rfl rfl Try.func9 (by kernel_rfl) rfl #[] rfl (by (try simp only [List.map_toArray, List.map_cons, List.map_nil]); first | done | rfl | (simp only [List.length_drop, List.length_take]; rfl)) ?_; (with_reducible refine (downpourlaw07_alive.calls  true _ A6.out).mono ?_); rintro e w18 ⟨rfl, hb⟩; refine ⟨_, rfl, ?_⟩; have n0_ := Aside0.mk (below_step (by repeat (first | (with_reducible first | exact HB.out | apply below_alloc | apply pw_below_drewN | apply below_drew1) | exact HB.out)) hb); clear HB; have HB := n0_; clear n0_; (try clear hb); (try clear hb2); (try clear hk); (try clear hi)))
                  go_ret
                  exact ⟨by first | rfl | (simp [errW_none, errW_some] <;> rfl) | (simp [*, errW_none, errW_some] <;> rfl), by repeat (first | (with_reducible first | exact HB.out | apply below_alloc | apply pw_below_drewN | apply below_drew1) | exact HB.out)⟩
                · rw [if_neg c17] at H
                  have c17b0 : (t123 == (Int.tmod (wrap64 ((Int.tmod a0 46340) + 46340)) 46340)) = false := beq_eq_false_iff_ne.mpr c17
                  have c17b1 : (t123 != (Int.tmod (wrap64 ((Int.tmod a0 46340) + 46340)) 46340)) = true := bne_iff_ne.mpr c17
                  obtain rfl := Option.some.inj H
                  go_enter Try.func4, Try.ntmps4
                  go_wp2_with (first | ((with_reducible refine gate_callee (f := 11) rfl ?_); refine goesL_ (some 17) rfl rfl Try.func11 (by kernel_rfl) rfl #[.int .i64 (Int.tmod (wrap64 ((Int.tmod a0 46340) + 46340)) 46340)] rfl (by (try simp only [List.map_toArray, List.map_cons, List.map_nil]); first | done | rfl | (simp only [List.length_drop, List.length_take]; rfl)) ?_; (with_reducible refine (degree_Root.calls k (Int.tmod (wrap64 ((Int.tmod a0 46340) + 46340)) 46340) t119 t120 _ A2.out).mono ?_); rintro e w' ⟨rfl, ⟨nd, rfl⟩⟩; refine ⟨_, rfl, ?_⟩) | ((with_reducible refine gate_callee (f := 11) rfl ?_); refine goesL_ (some 23) rfl rfl Try.func11 (by kernel_rfl) rfl #[.int .i64 (wrap64 ((Int.tmod (wrap64 ((Int.tmod a0 46340) + 46340)) 46340) + 1))] rfl (by (try simp only [List.map_toArray, List.map_cons, List.map_nil]); first | done | rfl | (simp only [List.length_drop, List.length_take]; rfl)) ?_; (with_reducible refine (degree_Root.calls k (wrap64 ((Int.tmod (wrap64 ((Int.tmod a0 46340) + 46340)) 46340) + 1)) t121 t122 _ A3.out).mono ?_); rintro e w' ⟨rfl, ⟨nd, rfl⟩⟩; refine ⟨_, rfl, ?_⟩) | ((with_reducible refine gate_callee (f := 11) rfl ?_); refine goesL_ (some 30) rfl rfl Try.func11 (by kernel_rfl) rfl #[.int .i64 (wrap64 ((Int.tmod (wrap64 ((Int.tmod a0 46340) + 46340)) 46340) * (Int.tmod (wrap64 ((Int.tmod a0 46340) + 46340)) 46340)))] rfl (by (try simp only [List.map_toArray, List.map_cons, List.map_nil]); first | done | rfl | (simp only [List.length_drop, List.length_take]; rfl)) ?_; (with_reducible refine (degree_Root.calls k (wrap64 ((Int.tmod (wrap64 ((Int.tmod a0 46340) + 46340)) 46340) * (Int.tmod (wrap64 ((Int.tmod a0 46340) + 46340)) 46340))) t123 t124 _ A4.out).mono ?_); rintro e w' ⟨rfl, ⟨nd, rfl⟩⟩; refine ⟨_, rfl, ?_⟩) | ((with_reducible refine gate_callee (f := 11) rfl ?_); refine goesL_ (some 40) rfl rfl Try.func11 (by kernel_rfl) rfl #[.int .i64 (wrap64 ((wrap64 ((Int.tmod (wrap64 ((Int.tmod a0 46340) + 46340)) 46340) * (Int.tmod (wrap64 ((Int.tmod a0 46340) + 46340)) 46340))) + (wrap64 (2 * (Int.tmod (wrap64 ((Int.tmod a0 46340) + 46340)) 46340)))))] rfl (by (try simp only [List.map_toArray, List.map_cons, List.map_nil]); first | done | rfl | (simp only [List.length_drop, List.length_take]; rfl)) ?_; (with_reducible refine (degree_Root.calls k (wrap64 ((wrap64 ((Int.tmod (wrap64 ((Int.tmod a0 46340) + 46340)) 46340) * (Int.tmod (wrap64 ((Int.tmod a0 46340) + 46340)) 46340))) + (wrap64 (2 * (Int.tmod (wrap64 ((Int.tmod a0 46340) + 46340)) 46340))))) t125 t126 _ A5.out).mono ?_); rintro e w' ⟨rfl, ⟨nd, rfl⟩⟩; refine ⟨_, rfl, ?_⟩) | ((with_reducible refine gate_callee (f := 9) rfl ?_); refine goesL_ (some 43) rfl rfl Try.func9 (by kernel_rfl) rfl #[] rfl (by (try simp only [List.map_toArray, List.map_cons, List.map_nil]); first | done | rfl | (simp only [List.length_drop, List.length_take]; rfl)) ?_; (with_reducible refine (downpourlaw07_alive.calls  true _ A6.out).mono ?_); rintro e w19 ⟨rfl, hb⟩; refine ⟨_, rfl, ?_⟩; have n0_ := Aside0.mk (below_step (by repeat (first | (with_reducible first | exact HB.out | apply below_alloc | apply pw_below_drewN | apply below_drew1) | exact HB.out)) hb); clear HB; have HB := n0_; clear n0_; (try clear hb); (try clear hb2); (try clear hk); (try clear hi)))
                  go_ret
                  exact ⟨by first | rfl | (simp [errW_none, errW_some] <;> rfl) | (simp [*, errW_none, errW_some] <;> rfl), by repeat (first | (with_reducible first | exact HB.out | apply below_alloc | apply pw_below_drewN | apply below_drew1) | exact HB.out)⟩
              · rw [if_neg c16] at H
                have c16b0 : (t121 == (wrap64 (t119 + 1))) = false := beq_eq_false_iff_ne.mpr c16
                have c16b1 : (t121 != (wrap64 (t119 + 1))) = true := bne_iff_ne.mpr c16
                obtain rfl := Option.some.inj H
                go_enter Try.func4, Try.ntmps4
                go_wp2_with (first | ((with_reducible refine gate_callee (f := 11) rfl ?_); refine goesL_ (some 17) rfl rfl Try.func11 (by kernel_rfl) rfl #[.int .i64 (Int.tmod (wrap64 ((Int.tmod a0 46340) + 46340)) 46340)] rfl (by (try simp only [List.map_toArray, List.map_cons, List.map_nil]); first | done | rfl | (simp only [List.length_drop, List.length_take]; rfl)) ?_; (with_reducible refine (degree_Root.calls k (Int.tmod (wrap64 ((Int.tmod a0 46340) + 46340)) 46340) t119 t120 _ A2.out).mono ?_); rintro e w' ⟨rfl, ⟨nd, rfl⟩⟩; refine ⟨_, rfl, ?_⟩) | ((with_reducible refine gate_callee (f := 11) rfl ?_); refine goesL_ (some 23) rfl rfl Try.func11 (by kernel_rfl) rfl #[.int .i64 (wrap64 ((Int.tmod (wrap64 ((Int.tmod a0 46340) + 46340)) 46340) + 1))] rfl (by (try simp only [List.map_toArray, List.map_cons, List.map_nil]); first | done | rfl | (simp only [List.length_drop, List.length_take]; rfl)) ?_; (with_reducible refine (degree_Root.calls k (wrap64 ((Int.tmod (wrap64 ((Int.tmod a0 46340) + 46340)) 46340) + 1)) t121 t122 _ A3.out).mono ?_); rintro e w' ⟨rfl, ⟨nd, rfl⟩⟩; refine ⟨_, rfl, ?_⟩) | ((with_reducible refine gate_callee (f := 11) rfl ?_); refine goesL_ (some 30) rfl rfl Try.func11 (by kernel_rfl) rfl #[.int .i64 (wrap64 ((Int.tmod (wrap64 ((Int.tmod a0 46340) + 46340)) 46340) * (Int.tmod (wrap64 ((Int.tmod a0 46340) + 46340)) 46340)))] rfl (by (try simp only [List.map_toArray, List.map_cons, List.map_nil]); first | done | rfl | (simp only [List.length_drop, List.length_take]; rfl)) ?_; (with_reducible refine (degree_Root.calls k (wrap64 ((Int.tmod (wrap64 ((Int.tmod a0 46340) + 46340)) 46340) * (Int.tmod (wrap64 ((Int.tmod a0 46340) + 46340)) 46340))) t123 t124 _ A4.out).mono ?_); rintro e w' ⟨rfl, ⟨nd, rfl⟩⟩; refine ⟨_, rfl, ?_⟩) | ((with_reducible refine gate_callee (f := 11) rfl ?_); refine goesL_ (some 40) rfl rfl Try.func11 (by kernel_rfl) rfl #[.int .i64 (wrap64 ((wrap64 ((Int.tmod (wrap64 ((Int.tmod a0 46340) + 46340)) 46340) * (Int.tmod (wrap64 ((Int.tmod a0 46340) + 46340)) 46340))) + (wrap64 (2 * (Int.tmod (wrap64 ((Int.tmod a0 46340) + 46340)) 46340)))))] rfl (by (try simp only [List.map_toArray, List.map_cons, List.map_nil]); first | done | rfl | (simp only [List.length_drop, List.length_take]; rfl)) ?_; (with_reducible refine (degree_Root.calls k (wrap64 ((wrap64 ((Int.tmod (wrap64 ((Int.tmod a0 46340) + 46340)) 46340) * (Int.tmod (wrap64 ((Int.tmod a0 46340) + 46340)) 46340))) + (wrap64 (2 * (Int.tmod (wrap64 ((Int.tmod a0 46340) + 46340)) 46340))))) t125 t126 _ A5.out).mono ?_); rintro e w' ⟨rfl, ⟨nd, rfl⟩⟩; refine ⟨_, rfl, ?_⟩) | ((with_reducible refine gate_callee (f := 9) rfl ?_); refine goesL_ (some 43) rfl rfl Try.func9 (by kernel_rfl) rfl #[] rfl (by (try simp only [List.map_toArray, List.map_cons, List.map_nil]); first | done | rfl | (simp only [List.length_drop, List.length_take]; rfl)) ?_; (with_reducible refine (downpourlaw07_alive.calls  true _ A6.out).mono ?_); rintro e w20 ⟨rfl, hb⟩; refine ⟨_, rfl, ?_⟩; have n0_ := Aside0.mk (below_step (by repeat (first | (with_reducible first | exact HB.out | apply below_alloc | apply pw_below_drewN | apply below_drew1) | exact HB.out)) hb); clear HB; have HB := n0_; clear n0_; (try clear hb); (try clear hb2); (try clear hk); (try clear hi)))
                go_ret
                exact ⟨by first | rfl | (simp [errW_none, errW_some] <;> rfl) | (simp [*, errW_none, errW_some] <;> rfl), by repeat (first | (with_reducible first | exact HB.out | apply below_alloc | apply pw_below_drewN | apply below_drew1) | exact HB.out)⟩
          · rw [if_neg c11] at H
            have c11b0 : (t126 == 0) = false := beq_eq_false_iff_ne.mpr c11
            have c11b1 : (t126 != 0) = true := bne_iff_ne.mpr c11
            obtain rfl := Option.some.inj H
            try have c11z := beq_eq_false_iff_ne.mp c11b0
            go_enter Try.func4, Try.ntmps4
            go_wp2_with (first | ((with_reducible refine gate_callee (f := 11) rfl ?_); refine goesL_ (some 17) rfl rfl Try.func11 (by kernel_rfl) rfl #[.int .i64 (Int.tmod (wrap64 ((Int.tmod a0 46340) + 46340)) 46340)] rfl (by (try simp only [List.map_toArray, List.map_cons, List.map_nil]); first | done | rfl | (simp only [List.length_drop, List.length_take]; rfl)) ?_; (with_reducible refine (degree_Root.calls k (Int.tmod (wrap64 ((Int.tmod a0 46340) + 46340)) 46340) t119 t120 _ A2.out).mono ?_); rintro e w' ⟨rfl, ⟨nd, rfl⟩⟩; refine ⟨_, rfl, ?_⟩) | ((with_reducible refine gate_callee (f := 11) rfl ?_); refine goesL_ (some 23) rfl rfl Try.func11 (by kernel_rfl) rfl #[.int .i64 (wrap64 ((Int.tmod (wrap64 ((Int.tmod a0 46340) + 46340)) 46340) + 1))] rfl (by (try simp only [List.map_toArray, List.map_cons, List.map_nil]); first | done | rfl | (simp only [List.length_drop, List.length_take]; rfl)) ?_; (with_reducible refine (degree_Root.calls k (wrap64 ((Int.tmod (wrap64 ((Int.tmod a0 46340) + 46340)) 46340) + 1)) t121 t122 _ A3.out).mono ?_); rintro e w' ⟨rfl, ⟨nd, rfl⟩⟩; refine ⟨_, rfl, ?_⟩) | ((with_reducible refine gate_callee (f := 11) rfl ?_); refine goesL_ (some 30) rfl rfl Try.func11 (by kernel_rfl) rfl #[.int .i64 (wrap64 ((Int.tmod (wrap64 ((Int.tmod a0 46340) + 46340)) 46340) * (Int.tmod (wrap64 ((Int.tmod a0 46340) + 46340)) 46340)))] rfl (by (try simp only [List.map_toArray, List.map_cons, List.map_nil]); first | done | rfl | (simp only [List.length_drop, List.length_take]; rfl)) ?_; (with_reducible refine (degree_Root.calls k (wrap64 ((Int.tmod (wrap64 ((Int.tmod a0 46340) + 46340)) 46340) * (Int.tmod (wrap64 ((Int.tmod a0 46340) + 46340)) 46340))) t123 t124 _ A4.out).mono ?_); rintro e w' ⟨rfl, ⟨nd, rfl⟩⟩; refine ⟨_, rfl, ?_⟩) | ((with_reducible refine gate_callee (f := 11) rfl ?_); refine goesL_ (some 40) rfl rfl Try.func11 (by kernel_rfl) rfl #[.int .i64 (wrap64 ((wrap64 ((Int.tmod (wrap64 ((Int.tmod a0 46340) + 46340)) 46340) * (Int.tmod (wrap64 ((Int.tmod a0 46340) + 46340)) 46340))) + (wrap64 (2 * (Int.tmod (wrap64 ((Int.tmod a0 46340) + 46340)) 46340)))))] rfl (by (try simp only [List.map_toArray, List.map_cons, List.map_nil]); first | done | rfl | (simp only [List.length_drop, List.length_take]; rfl)) ?_; (with_reducible refine (degree_Root.calls k (wrap64 ((wrap64 ((Int.tmod (wrap64 ((Int.tmod a0 46340) + 46340)) 46340) * (Int.tmod (wrap64 ((Int.tmod a0 46340) + 46340)) 46340))) + (wrap64 (2 * (Int.tmod (wrap64 ((Int.tmod a0 46340) + 46340)) 46340))))) t125 t126 _ A5.out).mono ?_); rintro e w' ⟨rfl, ⟨nd, rfl⟩⟩; refine ⟨_, rfl, ?_⟩) | ((with_reducible refine gate_callee (f := 9) rfl ?_); refine goesL_ (some 43) rfl rfl Try.func9 (by kernel_rfl) rfl #[] rfl (by (try simp only [List.map_toArray, List.map_cons, List.map_nil]); first | done | rfl | (simp only [List.length_drop, List.length_take]; rfl)) ?_; (with_reducible refine (downpourlaw07_alive.calls  true _ A6.out).mono ?_); rintro e w21 ⟨rfl, hb⟩; refine ⟨_, rfl, ?_⟩; have n0_ := Aside0.mk (below_step (by repeat (first | (with_reducible first | exact HB.out | apply below_alloc | apply pw_below_drewN | apply below_drew1) | exact HB.out)) hb); clear HB; have HB := n0_; clear n0_; (try clear hb); (try clear hb2); (try clear hk); (try clear hi)))
            go_ret
            exact ⟨by first | rfl | (simp [errW_none, errW_some] <;> rfl) | (simp [*, errW_none, errW_some] <;> rfl), by repeat (first | (with_reducible first | exact HB.out | apply below_alloc | apply pw_below_drewN | apply below_drew1) | exact HB.out)⟩
        · rw [if_neg c10] at H
          have c10b0 : (t124 == 0) = false := beq_eq_false_iff_ne.mpr c10
          have c10b1 : (t124 != 0) = true := bne_iff_ne.mpr c10
          obtain rfl := Option.some.inj H
          try have c10z := beq_eq_false_iff_ne.mp c10b0
          go_enter Try.func4, Try.ntmps4
          go_wp2_with (first | ((with_reducible refine gate_callee (f := 11) rfl ?_); refine goesL_ (some 17) rfl rfl Try.func11 (by kernel_rfl) rfl #[.int .i64 (Int.tmod (wrap64 ((Int.tmod a0 46340) + 46340)) 46340)] rfl (by (try simp only [List.map_toArray, List.map_cons, List.map_nil]); first | done | rfl | (simp only [List.length_drop, List.length_take]; rfl)) ?_; (with_reducible refine (degree_Root.calls k (Int.tmod (wrap64 ((Int.tmod a0 46340) + 46340)) 46340) t119 t120 _ A2.out).mono ?_); rintro e w' ⟨rfl, ⟨nd, rfl⟩⟩; refine ⟨_, rfl, ?_⟩) | ((with_reducible refine gate_callee (f := 11) rfl ?_); refine goesL_ (some 23) rfl rfl Try.func11 (by kernel_rfl) rfl #[.int .i64 (wrap64 ((Int.tmod (wrap64 ((Int.tmod a0 46340) + 46340)) 46340) + 1))] rfl (by (try simp only [List.map_toArray, List.map_cons, List.map_nil]); first | done | rfl | (simp only [List.length_drop, List.length_take]; rfl)) ?_; (with_reducible refine (degree_Root.calls k (wrap64 ((Int.tmod (wrap64 ((Int.tmod a0 46340) + 46340)) 46340) + 1)) t121 t122 _ A3.out).mono ?_); rintro e w' ⟨rfl, ⟨nd, rfl⟩⟩; refine ⟨_, rfl, ?_⟩) | ((with_reducible refine gate_callee (f := 11) rfl ?_); refine goesL_ (some 30) rfl rfl Try.func11 (by kernel_rfl) rfl #[.int .i64 (wrap64 ((Int.tmod (wrap64 ((Int.tmod a0 46340) + 46340)) 46340) * (Int.tmod (wrap64 ((Int.tmod a0 46340) + 46340)) 46340)))] rfl (by (try simp only [List.map_toArray, List.map_cons, List.map_nil]); first | done | rfl | (simp only [List.length_drop, List.length_take]; rfl)) ?_; (with_reducible refine (degree_Root.calls k (wrap64 ((Int.tmod (wrap64 ((Int.tmod a0 46340) + 46340)) 46340) * (Int.tmod (wrap64 ((Int.tmod a0 46340) + 46340)) 46340))) t123 t124 _ A4.out).mono ?_); rintro e w' ⟨rfl, ⟨nd, rfl⟩⟩; refine ⟨_, rfl, ?_⟩) | ((with_reducible refine gate_callee (f := 11) rfl ?_); refine goesL_ (some 40) rfl rfl Try.func11 (by kernel_rfl) rfl #[.int .i64 (wrap64 ((wrap64 ((Int.tmod (wrap64 ((Int.tmod a0 46340) + 46340)) 46340) * (Int.tmod (wrap64 ((Int.tmod a0 46340) + 46340)) 46340))) + (wrap64 (2 * (Int.tmod (wrap64 ((Int.tmod a0 46340) + 46340)) 46340)))))] rfl (by (try simp only [List.map_toArray, List.map_cons, List.map_nil]); first | done | rfl | (simp only [List.length_drop, List.length_take]; rfl)) ?_; (with_reducible refine (degree_Root.calls k (wrap64 ((wrap64 ((Int.tmod (wrap64 ((Int.tmod a0 46340) + 46340)) 46340) * (Int.tmod (wrap64 ((Int.tmod a0 46340) + 46340)) 46340))) + (wrap64 (2 * (Int.tmod (wrap64 ((Int.tmod a0 46340) + 46340)) 46340))))) t125 t126 _ A5.out).mono ?_); rintro e w' ⟨rfl, ⟨nd, rfl⟩⟩; refine ⟨_, rfl, ?_⟩) | ((with_reducible refine gate_callee (f := 9) rfl ?_); refine goesL_ (some 43) rfl rfl Try.func9 (by kernel_rfl) rfl #[] rfl (by (try simp only [List.map_toArray, List.map_cons, List.map_nil]); first | done | rfl | (simp only [List.length_drop, List.length_take]; rfl)) ?_; (with_reducible refine (downpourlaw07_alive.calls  true _ A6.out).mono ?_); rintro e w22 ⟨rfl, hb⟩; refine ⟨_, rfl, ?_⟩; have n0_ := Aside0.mk (below_step (by repeat (first | (with_reducible first | exact HB.out | apply below_alloc | apply pw_below_drewN | apply below_drew1) | exact HB.out)) hb); clear HB; have HB := n0_; clear n0_; (try clear hb); (try clear hb2); (try clear hk); (try clear hi)))
          go_ret
          exact ⟨by first | rfl | (simp [errW_none, errW_some] <;> rfl) | (simp [*, errW_none, errW_some] <;> rfl), by repeat (first | (with_reducible first | exact HB.out | apply below_alloc | apply pw_below_drewN | apply below_drew1) | exact HB.out)⟩
      · rw [if_neg c9] at H
        have c9b0 : (t122 == 0) = false := beq_eq_false_iff_ne.mpr c9
        have c9b1 : (t122 != 0) = true := bne_iff_ne.mpr c9
        obtain rfl := Option.some.inj H
        try have c9z := beq_eq_false_iff_ne.mp c9b0
        go_enter Try.func4, Try.ntmps4
        go_wp2_with (first | ((with_reducible refine gate_callee (f := 11) rfl ?_); refine goesL_ (some 17) rfl rfl Try.func11 (by kernel_rfl) rfl #[.int .i64 (Int.tmod (wrap64 ((Int.tmod a0 46340) + 46340)) 46340)] rfl (by (try simp only [List.map_toArray, List.map_cons, List.map_nil]); first | done | rfl | (simp only [List.length_drop, List.length_take]; rfl)) ?_; (with_reducible refine (degree_Root.calls k (Int.tmod (wrap64 ((Int.tmod a0 46340) + 46340)) 46340) t119 t120 _ A2.out).mono ?_); rintro e w' ⟨rfl, ⟨nd, rfl⟩⟩; refine ⟨_, rfl, ?_⟩) | ((with_reducible refine gate_callee (f := 11) rfl ?_); refine goesL_ (some 23) rfl rfl Try.func11 (by kernel_rfl) rfl #[.int .i64 (wrap64 ((Int.tmod (wrap64 ((Int.tmod a0 46340) + 46340)) 46340) + 1))] rfl (by (try simp only [List.map_toArray, List.map_cons, List.map_nil]); first | done | rfl | (simp only [List.length_drop, List.length_take]; rfl)) ?_; (with_reducible refine (degree_Root.calls k (wrap64 ((Int.tmod (wrap64 ((Int.tmod a0 46340) + 46340)) 46340) + 1)) t121 t122 _ A3.out).mono ?_); rintro e w' ⟨rfl, ⟨nd, rfl⟩⟩; refine ⟨_, rfl, ?_⟩) | ((with_reducible refine gate_callee (f := 11) rfl ?_); refine goesL_ (some 30) rfl rfl Try.func11 (by kernel_rfl) rfl #[.int .i64 (wrap64 ((Int.tmod (wrap64 ((Int.tmod a0 46340) + 46340)) 46340) * (Int.tmod (wrap64 ((Int.tmod a0 46340) + 46340)) 46340)))] rfl (by (try simp only [List.map_toArray, List.map_cons, List.map_nil]); first | done | rfl | (simp only [List.length_drop, List.length_take]; rfl)) ?_; (with_reducible refine (degree_Root.calls k (wrap64 ((Int.tmod (wrap64 ((Int.tmod a0 46340) + 46340)) 46340) * (Int.tmod (wrap64 ((Int.tmod a0 46340) + 46340)) 46340))) t123 t124 _ A4.out).mono ?_); rintro e w' ⟨rfl, ⟨nd, rfl⟩⟩; refine ⟨_, rfl, ?_⟩) | ((with_reducible refine gate_callee (f := 11) rfl ?_); refine goesL_ (some 40) rfl rfl Try.func11 (by kernel_rfl) rfl #[.int .i64 (wrap64 ((wrap64 ((Int.tmod (wrap64 ((Int.tmod a0 46340) + 46340)) 46340) * (Int.tmod (wrap64 ((Int.tmod a0 46340) + 46340)) 46340))) + (wrap64 (2 * (Int.tmod (wrap64 ((Int.tmod a0 46340) + 46340)) 46340)))))] rfl (by (try simp only [List.map_toArray, List.map_cons, List.map_nil]); first | done | rfl | (simp only [List.length_drop, List.length_take]; rfl)) ?_; (with_reducible refine (degree_Root.calls k (wrap64 ((wrap64 ((Int.tmod (wrap64 ((Int.tmod a0 46340) + 46340)) 46340) * (Int.tmod (wrap64 ((Int.tmod a0 46340) + 46340)) 46340))) + (wrap64 (2 * (Int.tmod (wrap64 ((Int.tmod a0 46340) + 46340)) 46340))))) t125 t126 _ A5.out).mono ?_); rintro e w' ⟨rfl, ⟨nd, rfl⟩⟩; refine ⟨_, rfl, ?_⟩) | ((with_reducible refine gate_callee (f := 9) rfl ?_); refine goesL_ (some 43) rfl rfl Try.func9 (by kernel_rfl) rfl #[] rfl (by (try simp only [List.map_toArray, List.map_cons, List.map_nil]); first | done | rfl | (simp only [List.length_drop, List.length_take]; rfl)) ?_; (with_reducible refine (downpourlaw07_alive.calls  true _ A6.out).mono ?_); rintro e w23 ⟨rfl, hb⟩; refine ⟨_, rfl, ?_⟩; have n0_ := Aside0.mk (below_step (by repeat (first | (with_reducible first | exact HB.out | apply below_alloc | apply pw_below_drewN | apply below_drew1) | exact HB.out)) hb); clear HB; have HB := n0_; clear n0_; (try clear hb); (try clear hb2); (try clear hk); (try clear hi)))
        go_ret
        exact ⟨by first | rfl | (simp [errW_none, errW_some] <;> rfl) | (simp [*, errW_none, errW_some] <;> rfl), by repeat (first | (with_reducible first | exact HB.out | apply below_alloc | apply pw_below_drewN | apply below_drew1) | exact HB.out)⟩
    · rw [if_neg c8] at H
      have c8b0 : (t120 == 0) = false := beq_eq_false_iff_ne.mpr c8
      have c8b1 : (t120 != 0) = true := bne_iff_ne.mpr c8
      obtain rfl := Option.some.inj H
      try have c8z := beq_eq_false_iff_ne.mp c8b0
      go_enter Try.func4, Try.ntmps4
      go_wp2_with (first | ((with_reducible refine gate_callee (f := 11) rfl ?_); refine goesL_ (some 17) rfl rfl Try.func11 (by kernel_rfl) rfl #[.int .i64 (Int.tmod (wrap64 ((Int.tmod a0 46340) + 46340)) 46340)] rfl (by (try simp only [List.map_toArray, List.map_cons, List.map_nil]); first | done | rfl | (simp only [List.length_drop, List.length_take]; rfl)) ?_; (with_reducible refine (degree_Root.calls k (Int.tmod (wrap64 ((Int.tmod a0 46340) + 46340)) 46340) t119 t120 _ A2.out).mono ?_); rintro e w' ⟨rfl, ⟨nd, rfl⟩⟩; refine ⟨_, rfl, ?_⟩) | ((with_reducible refine gate_callee (f := 11) rfl ?_); refine goesL_ (some 23) rfl rfl Try.func11 (by kernel_rfl) rfl #[.int .i64 (wrap64 ((Int.tmod (wrap64 ((Int.tmod a0 46340) + 46340)) 46340) + 1))] rfl (by (try simp only [List.map_toArray, List.map_cons, List.map_nil]); first | done | rfl | (simp only [List.length_drop, List.length_take]; rfl)) ?_; (with_reducible refine (degree_Root.calls k (wrap64 ((Int.tmod (wrap64 ((Int.tmod a0 46340) + 46340)) 46340) + 1)) t121 t122 _ A3.out).mono ?_); rintro e w' ⟨rfl, ⟨nd, rfl⟩⟩; refine ⟨_, rfl, ?_⟩) | ((with_reducible refine gate_callee (f := 11) rfl ?_); refine goesL_ (some 30) rfl rfl Try.func11 (by kernel_rfl) rfl #[.int .i64 (wrap64 ((Int.tmod (wrap64 ((Int.tmod a0 46340) + 46340)) 46340) * (Int.tmod (wrap64 ((Int.tmod a0 46340) + 46340)) 46340)))] rfl (by (try simp only [List.map_toArray, List.map_cons, List.map_nil]); first | done | rfl | (simp only [List.length_drop, List.length_take]; rfl)) ?_; (with_reducible refine (degree_Root.calls k (wrap64 ((Int.tmod (wrap64 ((Int.tmod a0 46340) + 46340)) 46340) * (Int.tmod (wrap64 ((Int.tmod a0 46340) + 46340)) 46340))) t123 t124 _ A4.out).mono ?_); rintro e w' ⟨rfl, ⟨nd, rfl⟩⟩; refine ⟨_, rfl, ?_⟩) | ((with_reducible refine gate_callee (f := 11) rfl ?_); refine goesL_ (some 40) rfl rfl Try.func11 (by kernel_rfl) rfl #[.int .i64 (wrap64 ((wrap64 ((Int.tmod (wrap64 ((Int.tmod a0 46340) + 46340)) 46340) * (Int.tmod (wrap64 ((Int.tmod a0 46340) + 46340)) 46340))) + (wrap64 (2 * (Int.tmod (wrap64 ((Int.tmod a0 46340) + 46340)) 46340)))))] rfl (by (try simp only [List.map_toArray, List.map_cons, List.map_nil]); first | done | rfl | (simp only [List.length_drop, List.length_take]; rfl)) ?_; (with_reducible refine (degree_Root.calls k (wrap64 ((wrap64 ((Int.tmod (wrap64 ((Int.tmod a0 46340) + 46340)) 46340) * (Int.tmod (wrap64 ((Int.tmod a0 46340) + 46340)) 46340))) + (wrap64 (2 * (Int.tmod (wrap64 ((Int.tmod a0 46340) + 46340)) 46340))))) t125 t126 _ A5.out).mono ?_); rintro e w' ⟨rfl, ⟨nd, rfl⟩⟩; refine ⟨_, rfl, ?_⟩) | ((with_reducible refine gate_callee (f := 9) rfl ?_); refine goesL_ (some 43) rfl rfl Try.func9 (by kernel_rfl) rfl #[] rfl (by (try simp only [List.map_toArray, List.map_cons, List.map_nil]); first | done | rfl | (simp only [List.length_drop, List.length_take]; rfl)) ?_; (with_reducible refine (downpourlaw07_alive.calls  true _ A6.out).mono ?_); rintro e w24 ⟨rfl, hb⟩; refine ⟨_, rfl, ?_⟩; have n0_ := Aside0.mk (below_step (by repeat (first | (with_reducible first | exact HB.out | apply below_alloc | apply pw_below_drewN | apply below_drew1) | exact HB.out)) hb); clear HB; have HB := n0_; clear n0_; (try clear hb); (try clear hb2); (try clear hk); (try clear hi)))
      go_ret
      exact ⟨by first | rfl | (simp [errW_none, errW_some] <;> rfl) | (simp [*, errW_none, errW_some] <;> rfl), by repeat (first | (with_reducible first | exact HB.out | apply below_alloc | apply pw_below_drewN | apply below_drew1) | exact HB.out)⟩
  · replace c7 := Bool.eq_false_iff.mpr c7
    subst c7
    have H1 : (some false) = some r := by rw [if_neg (show ¬ (false = true) by decide)] at H; exact H
    clear H
    have H := H1
    clear H1
    obtain rfl := Option.some.inj H
    go_enter Try.func4, Try.ntmps4
    go_wp2_with (first | ((with_reducible refine gate_callee (f := 11) rfl ?_); refine goesL_ (some 17) rfl rfl Try.func11 (by kernel_rfl) rfl #[.int .i64 (Int.tmod (wrap64 ((Int.tmod a0 46340) + 46340)) 46340)] rfl (by (try simp only [List.map_toArray, List.map_cons, List.map_nil]); first | done | rfl | (simp only [List.length_drop, List.length_take]; rfl)) ?_; (with_reducible refine (degree_Root.calls k (Int.tmod (wrap64 ((Int.tmod a0 46340) + 46340)) 46340) t119 t120 _ A2.out).mono ?_); rintro e w' ⟨rfl, ⟨nd, rfl⟩⟩; refine ⟨_, rfl, ?_⟩) | ((with_reducible refine gate_callee (f := 11) rfl ?_); refine goesL_ (some 23) rfl rfl Try.func11 (by kernel_rfl) rfl #[.int .i64 (wrap64 ((Int.tmod (wrap64 ((Int.tmod a0 46340) + 46340)) 46340) + 1))] rfl (by (try simp only [List.map_toArray, List.map_cons, List.map_nil]); first | done | rfl | (simp only [List.length_drop, List.length_take]; rfl)) ?_; (with_reducible refine (degree_Root.calls k (wrap64 ((Int.tmod (wrap64 ((Int.tmod a0 46340) + 46340)) 46340) + 1)) t121 t122 _ A3.out).mono ?_); rintro e w' ⟨rfl, ⟨nd, rfl⟩⟩; refine ⟨_, rfl, ?_⟩) | ((with_reducible refine gate_callee (f := 11) rfl ?_); refine goesL_ (some 30) rfl rfl Try.func11 (by kernel_rfl) rfl #[.int .i64 (wrap64 ((Int.tmod (wrap64 ((Int.tmod a0 46340) + 46340)) 46340) * (Int.tmod (wrap64 ((Int.tmod a0 46340) + 46340)) 46340)))] rfl (by (try simp only [List.map_toArray, List.map_cons, List.map_nil]); first | done | rfl | (simp only [List.length_drop, List.length_take]; rfl)) ?_; (with_reducible refine (degree_Root.calls k (wrap64 ((Int.tmod (wrap64 ((Int.tmod a0 46340) + 46340)) 46340) * (Int.tmod (wrap64 ((Int.tmod a0 46340) + 46340)) 46340))) t123 t124 _ A4.out).mono ?_); rintro e w' ⟨rfl, ⟨nd, rfl⟩⟩; refine ⟨_, rfl, ?_⟩) | ((with_reducible refine gate_callee (f := 11) rfl ?_); refine goesL_ (some 40) rfl rfl Try.func11 (by kernel_rfl) rfl #[.int .i64 (wrap64 ((wrap64 ((Int.tmod (wrap64 ((Int.tmod a0 46340) + 46340)) 46340) * (Int.tmod (wrap64 ((Int.tmod a0 46340) + 46340)) 46340))) + (wrap64 (2 * (Int.tmod (wrap64 ((Int.tmod a0 46340) + 46340)) 46340)))))] rfl (by (try simp only [List.map_toArray, List.map_cons, List.map_nil]); first | done | rfl | (simp only [List.length_drop, List.length_take]; rfl)) ?_; (with_reducible refine (degree_Root.calls k (wrap64 ((wrap64 ((Int.tmod (wrap64 ((Int.tmod a0 46340) + 46340)) 46340) * (Int.tmod (wrap64 ((Int.tmod a0 46340) + 46340)) 46340))) + (wrap64 (2 * (Int.tmod (wrap64 ((Int.tmod a0 46340) + 46340)) 46340))))) t125 t126 _ A5.out).mono ?_); rintro e w' ⟨rfl, ⟨nd, rfl⟩⟩; refine ⟨_, rfl, ?_⟩) | ((with_reducible refine gate_callee (f := 9) rfl ?_); refine goesL_ (some 43) rfl rfl Try.func9 (by kernel_rfl) rfl #[] rfl (by (try simp only [List.map_toArray, List.map_cons, List.map_nil]); first | done | rfl | (simp only [List.length_drop, List.length_take]; rfl)) ?_; (with_reducible refine (downpourlaw07_alive.calls  false _ A6.out).mono ?_); rintro e w25 ⟨rfl, hb⟩; refine ⟨_, rfl, ?_⟩; have n0_ := Aside0.mk (below_step (by repeat (first | (with_reducible first | exact HB.out | apply below_alloc | apply pw_below_drewN | apply below_drew1) | exact HB.out)) hb); clear HB; have HB := n0_; clear n0_; (try clear hb); (try clear hb2); (try clear hk); (try clear hi)))
    go_ret
    exact ⟨by first | rfl | (simp [errW_none, errW_some] <;> rfl) | (simp [*, errW_none, errW_some] <;> rfl), by repeat (first | (with_reducible first | exact HB.out | apply below_alloc | apply pw_below_drewN | apply below_drew1) | exact HB.out)⟩

/-- THE ONE PURE STATEMENT of downpourlaw07_DegreeRoots: yours. -/
def downpourlaw07_DegreeRoots.Pure : Prop := ∀ (a0 : Int), (Lit.int .i64 a0).wf = true → ∃ k, downpourlaw07_DegreeRoots.f k a0 = some true
theorem downpourlaw07_DegreeRoots.walk (P : downpourlaw07_DegreeRoots.Pure) (a0 : Int) (w : World) (w0 : (Lit.int .i64 a0).wf = true) :
    Calls Try.prog 4 #[.int .i64 a0] w fun e w' => e = .returned (.bool true) ∧ Below w.heap.size w w' := by
  obtain ⟨k, h⟩ := P a0 w0
  refine (downpourlaw07_DegreeRoots.calls k a0 true w h).mono ?_
  rintro e w' ⟨rfl, hd⟩
  exact ⟨rfl, hd⟩

end Go.Proofs.Ytjgcfdiicjbdoaa.P

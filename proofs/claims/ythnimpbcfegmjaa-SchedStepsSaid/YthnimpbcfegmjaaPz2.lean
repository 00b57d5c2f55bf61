/- Functions and their contracts, printed by stubprint.py (a program of this repo, which runs the kit's print with some functions proved by hand): each call answers what the plain function tells. -/
import Derived.Test.YthnimpbcfegmjaaPx0
namespace Go.Proofs.Ythnimpbcfegmjaa.P
open Go.RowKit
open Go.RowKit Go.Proofs.YthnimpbcfegmjaaW.PrintWords Go.Proofs.YthnimpbcfegmjaaW.PrintLast Go.Proofs.YthnimpbcfegmjaaW.PrintMore
attribute [local go_sem] max2_int min2_int max_two min_two max_three min_three max_four min_four   -- for this text's walks alone
set_option linter.unusedVariables false
set_option linter.unusedSimpArgs false

/-! ### downpourref20_Done: function 26 -/
def downpourref20_Done.l0 : Nat → List (List (S44)) → Int → Int → List (List (S44)) → List Int → List Int → List Int → List Int → List (List Int) → Option (Bool)
  | 0, _, _, _, _, _, _, _, _, _ => none
  | k + 1, x6, x7, x8, x303000, x303001, x303002, x303003, x303004, x303005 => if x8 < x7 then (if 0 ≤ x8 then (if x8 < (x6.length : Int) then (if x8 < (x303001.length : Int) then (if (rd x303001 x8) < ((rd_L2 x6 x8).length : Int) then (some false) else (downpourref20_Done.l0 k x6 x7 (wrap64 (x8 + 1)) x303000 x303001 x303002 x303003 x303004 x303005)) else (none)) else (none)) else (none)) else (some true)
def downpourref20_Done.f (k : Nat) (l0_0 : List (List (S44))) (l0_1 : List Int) (l0_2 : List Int) (l0_3 : List Int) (l0_4 : List Int) (l0_5 : List (List Int)) : Option (Bool) := downpourref20_Done.l0 k l0_0 (l0_0.length : Int) 0 l0_0 l0_1 l0_2 l0_3 l0_4 l0_5
theorem downpourref20_Done.mono_l : ∀ k, (∀ y0 y1 y2 y3 y4 y5 y6 y7 y8, LeO (downpourref20_Done.l0 k y0 y1 y2 y3 y4 y5 y6 y7 y8) (downpourref20_Done.l0 (k + 1) y0 y1 y2 y3 y4 y5 y6 y7 y8))
  | 0 => fun _ _ _ _ _ _ _ _ _ r h => by simp [downpourref20_Done.l0] at h
  | k + 1 => by
    have ih0 := downpourref20_Done.mono_l k
    · intro y0 y1 y2 y3 y4 y5 y6 y7 y8
      unfold downpourref20_Done.l0
      repeat' first
      | (with_reducible exact ih0 _ _ _ _ _ _ _ _ _)
      | (with_reducible exact LeO.refl _)
      | (with_reducible exact LeO.none _)
      | (with_reducible refine LeO.ite ?_ ?_)
      | (with_reducible refine LeO.bind ?_ (fun _ => ?_))
      | exact ih0 _ _ _ _ _ _ _ _ _
      | exact LeO.none _
      | refine LeO.ite ?_ ?_
      | refine LeO.bind ?_ (fun _ => ?_)
theorem downpourref20_Done.mono : ∀ a0 a1 a2 a3 a4 a5 k, LeO (downpourref20_Done.f k a0 a1 a2 a3 a4 a5) (downpourref20_Done.f (k + 1) a0 a1 a2 a3 a4 a5) := by
  intro a0 a1 a2 a3 a4 a5 k
  have ih0 := downpourref20_Done.mono_l k
  unfold downpourref20_Done.f
  repeat' first
      | (with_reducible exact ih0 _ _ _ _ _ _ _ _ _)
      | (with_reducible exact LeO.refl _)
      | (with_reducible exact LeO.none _)
      | (with_reducible refine LeO.ite ?_ ?_)
      | (with_reducible refine LeO.bind ?_ (fun _ => ?_))
      | exact ih0 _ _ _ _ _ _ _ _ _
      | exact LeO.none _
      | refine LeO.ite ?_ ?_
      | refine LeO.bind ?_ (fun _ => ?_)
set_option maxHeartbeats 8000000 in
set_option maxRecDepth 100000 in
theorem downpourref20_Done.calls (k : Nat) (A0_0 : Option Addr) (c0_0 : Nat) (l0_0 : List (List (S44))) (A0_1 : Option Addr) (c0_1 : Nat) (l0_1 : List Int) (A0_2 : Option Addr) (c0_2 : Nat) (l0_2 : List Int) (A0_3 : Option Addr) (c0_3 : Nat) (l0_3 : List Int) (A0_4 : Option Addr) (c0_4 : Nat) (l0_4 : List Int) (A0_5 : Option Addr) (c0_5 : Nat) (l0_5 : List (List Int)) (r : Bool) (w : World) (hr0_0 : Kd.C (Kd.slice 44 k44) w A0_0 l0_0.length l0_0) (hc0_0 : l0_0.length ≤ c0_0) (hr0_1 : Kd.C (Kd.int .i64) w A0_1 l0_1.length l0_1) (hc0_1 : l0_1.length ≤ c0_1) (hr0_2 : Kd.C (Kd.int .i64) w A0_2 l0_2.length l0_2) (hc0_2 : l0_2.length ≤ c0_2) (hr0_3 : Kd.C (Kd.int .i64) w A0_3 l0_3.length l0_3) (hc0_3 : l0_3.length ≤ c0_3) (hr0_4 : Kd.C (Kd.int .i64) w A0_4 l0_4.length l0_4) (hc0_4 : l0_4.length ≤ c0_4) (hr0_5 : Kd.C (Kd.slice 3 (Kd.int .i64)) w A0_5 l0_5.length l0_5) (hc0_5 : l0_5.length ≤ c0_5) (h : downpourref20_Done.f k l0_0 l0_1 l0_2 l0_3 l0_4 l0_5 = some r) :
    Calls Try.prog 26 #[.agg #[.slice A0_0 l0_0.length c0_0, .slice A0_1 l0_1.length c0_1, .slice A0_2 l0_2.length c0_2, .slice A0_3 l0_3.length c0_3, .slice A0_4 l0_4.length c0_4, .slice A0_5 l0_5.length c0_5]] w fun e w' => e = .returned (.bool r) ∧ Below w.heap.size w w' := by
  have hu26 := Try.underlying26
  have HR0_0 := Aside0.mk hr0_0
  have HC0_0 := Aside0.mk hc0_0
  clear hr0_0 hc0_0
  have HR0_1 := Aside0.mk hr0_1
  have HC0_1 := Aside0.mk hc0_1
  clear hr0_1 hc0_1
  have HR0_2 := Aside0.mk hr0_2
  have HC0_2 := Aside0.mk hc0_2
  clear hr0_2 hc0_2
  have HR0_3 := Aside0.mk hr0_3
  have HC0_3 := Aside0.mk hc0_3
  clear hr0_3 hc0_3
  have HR0_4 := Aside0.mk hr0_4
  have HC0_4 := Aside0.mk hc0_4
  clear hr0_4 hc0_4
  have HR0_5 := Aside0.mk hr0_5
  have HC0_5 := Aside0.mk hc0_5
  clear hr0_5 hc0_5
  have HB := Aside0.mk (Below.refl w.heap.size w)
  have H : (downpourref20_Done.l0 k l0_0 (l0_0.length : Int) 0 l0_0 l0_1 l0_2 l0_3 l0_4 l0_5) = some r := h
  clear h
  have H' := Aside0.mk H
  clear H
  go_enter Try.func26, Try.ntmps26
  go_wp2_with (first | ((with_reducible refine gate_dst (N := 1) rfl ?_); refine box_event ?hg (N := 1) ?hd (cs := #[.slice A0_0 l0_0.length c0_0, .slice A0_1 l0_1.length c0_1, .slice A0_2 l0_2.length c0_2, .slice A0_3 l0_3.length c0_3, .slice A0_4 l0_4.length c0_4, .slice A0_5 l0_5.length c0_5]) (t := 26) ?hr ?_; (case hd => rfl); (case hg => rfl); (case hr => first | (go_simp; done) | (go_simp; rfl)); intro gb302 hg w2 hbox hb; have n0_ := Aside0.mk (below_step (by repeat (first | (with_reducible first | exact HB.out | apply below_alloc | apply pw_below_drewN | apply below_drew1) | exact HB.out)) hb); have n1_ := Aside0.mk (hbox); have n2_ := Aside0.mk ((by rw [hg]; exact (below_size (by repeat (first | (with_reducible first | exact HB.out | apply below_alloc | apply pw_below_drewN | apply below_drew1) | exact HB.out))) : w.heap.size ≤ gb302)); have n3_ := Aside0.mk ((by rw [hg]; exact (below_size (by repeat (first | (with_reducible first | exact HB.out | apply below_alloc | apply pw_below_drewN | apply below_drew1) | exact HB.out))) : w.heap.size ≤ gb302)); clear HB; have HB := n0_; have BK302 := n1_; have GW302 := n2_; have GE302 := n3_; clear n0_ n1_ n2_ n3_; clear hb hbox hg; have hcz3_0 : w2.cell? ⟨gb302, 0, none⟩ = some (.slice A0_0 l0_0.length c0_0) := (blk_cell BK302.out 0).trans rfl; have hcz3_1 : w2.cell? ⟨gb302, 1, none⟩ = some (.slice A0_1 l0_1.length c0_1) := (blk_cell BK302.out 1).trans rfl; have hcz3_2 : w2.cell? ⟨gb302, 2, none⟩ = some (.slice A0_2 l0_2.length c0_2) := (blk_cell BK302.out 2).trans rfl; have hcz3_3 : w2.cell? ⟨gb302, 3, none⟩ = some (.slice A0_3 l0_3.length c0_3) := (blk_cell BK302.out 3).trans rfl; have hcz3_4 : w2.cell? ⟨gb302, 4, none⟩ = some (.slice A0_4 l0_4.length c0_4) := (blk_cell BK302.out 4).trans rfl; have hcz3_5 : w2.cell? ⟨gb302, 5, none⟩ = some (.slice A0_5 l0_5.length c0_5) := (blk_cell BK302.out 5).trans rfl; have hfz3_0 := blk_frozen BK302.out 0; have hfz3_1 := blk_frozen BK302.out 1; have hfz3_2 := blk_frozen BK302.out 2; have hfz3_3 := blk_frozen BK302.out 3; have hfz3_4 := blk_frozen BK302.out 4; have hfz3_5 := blk_frozen BK302.out 5))
  go_loopg [8] k (fun kq v8 w' => ∃ (x8_1 : Int), v8 = .int .i64 x8_1 ∧ Aside0 (downpourref20_Done.l0 kq l0_0 (l0_0.length : Int) x8_1 l0_0 l0_1 l0_2 l0_3 l0_4 l0_5 = some r) ∧ Aside0 (kq ≤ k) ∧ Aside0 (w'.heap[gb302]? = some (.cells #[(.slice A0_0 l0_0.length c0_0), (.slice A0_1 l0_1.length c0_1), (.slice A0_2 l0_2.length c0_2), (.slice A0_3 l0_3.length c0_3), (.slice A0_4 l0_4.length c0_4), (.slice A0_5 l0_5.length c0_5)] 26 (0, 0))) ∧ Aside0 (Below w.heap.size w w'))
  case atStart => exact ⟨(0), (by first | rfl | (simp; done) | (simp [*]; done)), H', ⟨Nat.le_refl _⟩, ⟨by (with_reducible repeat (first | refine blk_drewN ?_ _ | refine blk_drew ?_ | refine blk_alloc ?_ _)); exact BK302.out⟩, ⟨by repeat (first | (with_reducible first | exact HB.out | apply below_alloc | apply pw_below_drewN | apply below_drew1 | refine below_set ?_ GE302.out) | exact HB.out)⟩⟩
  case round =>
    clear H'
    try clear c2
    try clear p2
    try clear hcz3_0
    try clear hcz3_1
    try clear hcz3_2
    try clear hcz3_3
    try clear hcz3_4
    try clear hcz3_5
    try clear hfz3_0
    try clear hfz3_1
    try clear hfz3_2
    try clear hfz3_3
    try clear hfz3_4
    try clear hfz3_5
    obtain ⟨x8_1, rfl, HA, HK1, BK302, HB⟩ := hrel
    cases gk with
    | zero => exact absurd HA.out (by simp [downpourref20_Done.l0])
    | succ k1 =>
      have H := HA.out
      clear HA
      simp only [downpourref20_Done.l0] at H
      by_cases c4 : x8_1 < (l0_0.length : Int)
      · rw [if_pos c4] at H
        have c4b0 : decide (x8_1 < (l0_0.length : Int)) = true := decide_eq_true c4
        clear c4
        by_cases c5 : 0 ≤ x8_1
        · rw [if_pos c5] at H
          have c5b0 : decide (0 ≤ x8_1) = true := decide_eq_true c5
          clear c5
          by_cases c6 : x8_1 < (l0_0.length : Int)
          · rw [if_pos c6] at H
            have c6b0 : decide (x8_1 < (l0_0.length : Int)) = true := decide_eq_true c6
            clear c6
            by_cases c7 : x8_1 < (l0_1.length : Int)
            · rw [if_pos c7] at H
              have c7b0 : decide (x8_1 < (l0_1.length : Int)) = true := decide_eq_true c7
              clear c7
              by_cases c8 : (rd l0_1 x8_1) < ((rd_L2 l0_0 x8_1).length : Int)
              · rw [if_pos c8] at H
                have c8b0 : decide ((rd l0_1 x8_1) < ((rd_L2 l0_0 x8_1).length : Int)) = true := decide_eq_true c8
                clear c8
                obtain rfl := Option.some.inj H
                have p303 : 0 ≤ (x8_1 : Int) := of_decide_eq_true (by first | (with_reducible assumption) | assumption)
                have q303 : x8_1 < (l0_0.length : Int) := of_decide_eq_true (by first | (with_reducible assumption) | assumption)
                obtain ⟨ad303, A303_0, c303_0, e303, hx303_0, hl303_0, hi303_0⟩ := at_L2 HR0_0.out x8_1 p303 q303
                cases e303
                replace hx303_0 := (HB.out.cell (World.block_lt_of_cell? w _ hx303_0)).trans hx303_0
                have HR303_0 := Aside0.mk hi303_0
                have HC303_0 := Aside0.mk hl303_0
                clear hi303_0 hl303_0
                replace p303 := eq_true p303
                replace q303 := eq_true q303
                have hcz9_0 : wr.cell? ⟨gb302, 0, none⟩ = some (.slice (some ad303) l0_0.length c0_0) := (blk_cell BK302.out 0).trans rfl
                have hcz9_1 : wr.cell? ⟨gb302, 1, none⟩ = some (.slice A0_1 l0_1.length c0_1) := (blk_cell BK302.out 1).trans rfl
                have hcz9_2 : wr.cell? ⟨gb302, 2, none⟩ = some (.slice A0_2 l0_2.length c0_2) := (blk_cell BK302.out 2).trans rfl
                have hcz9_3 : wr.cell? ⟨gb302, 3, none⟩ = some (.slice A0_3 l0_3.length c0_3) := (blk_cell BK302.out 3).trans rfl
                have hcz9_4 : wr.cell? ⟨gb302, 4, none⟩ = some (.slice A0_4 l0_4.length c0_4) := (blk_cell BK302.out 4).trans rfl
                have hcz9_5 : wr.cell? ⟨gb302, 5, none⟩ = some (.slice A0_5 l0_5.length c0_5) := (blk_cell BK302.out 5).trans rfl
                have hfz9_0 := blk_frozen BK302.out 0
                have hfz9_1 := blk_frozen BK302.out 1
                have hfz9_2 := blk_frozen BK302.out 2
                have hfz9_3 := blk_frozen BK302.out 3
                have hfz9_4 := blk_frozen BK302.out 4
                have hfz9_5 := blk_frozen BK302.out 5
                have p304 : 0 ≤ (x8_1 : Int) := of_decide_eq_true (by first | (with_reducible assumption) | assumption)
                have q304 : x8_1 < (l0_1.length : Int) := of_decide_eq_true (by first | (with_reducible assumption) | assumption)
                obtain ⟨ad304, e304, hx304_0⟩ := Kd.at_int HR0_1.out x8_1 p304 q304
                cases e304
                replace hx304_0 := (HB.out.cell (World.block_lt_of_cell? w _ hx304_0)).trans hx304_0
                replace p304 := eq_true p304
                replace q304 := eq_true q304
                go_wp2
                go_ret
                exact ⟨by first | rfl | (simp [errW_none, errW_some] <;> rfl) | (simp [*, errW_none, errW_some] <;> rfl), by repeat (first | (with_reducible first | exact HB.out | apply below_alloc | apply pw_below_drewN | apply below_drew1 | refine below_set ?_ GE302.out) | exact HB.out)⟩
              · rw [if_neg c8] at H
                have c8b0 : decide ((rd l0_1 x8_1) < ((rd_L2 l0_0 x8_1).length : Int)) = false := decide_eq_false c8
                clear c8
                have H' := Aside0.mk H
                clear H
                have p303 : 0 ≤ (x8_1 : Int) := of_decide_eq_true (by first | (with_reducible assumption) | assumption)
                have q303 : x8_1 < (l0_0.length : Int) := of_decide_eq_true (by first | (with_reducible assumption) | assumption)
                obtain ⟨ad303, A303_0, c303_0, e303, hx303_0, hl303_0, hi303_0⟩ := at_L2 HR0_0.out x8_1 p303 q303
                cases e303
                replace hx303_0 := (HB.out.cell (World.block_lt_of_cell? w _ hx303_0)).trans hx303_0
                have HR303_0 := Aside0.mk hi303_0
                have HC303_0 := Aside0.mk hl303_0
                clear hi303_0 hl303_0
                replace p303 := eq_true p303
                replace q303 := eq_true q303
                have hcz10_0 : wr.cell? ⟨gb302, 0, none⟩ = some (.slice (some ad303) l0_0.length c0_0) := (blk_cell BK302.out 0).trans rfl
                have hcz10_1 : wr.cell? ⟨gb302, 1, none⟩ = some (.slice A0_1 l0_1.length c0_1) := (blk_cell BK302.out 1).trans rfl
                have hcz10_2 : wr.cell? ⟨gb302, 2, none⟩ = some (.slice A0_2 l0_2.length c0_2) := (blk_cell BK302.out 2).trans rfl
                have hcz10_3 : wr.cell? ⟨gb302, 3, none⟩ = some (.slice A0_3 l0_3.length c0_3) := (blk_cell BK302.out 3).trans rfl
                have hcz10_4 : wr.cell? ⟨gb302, 4, none⟩ = some (.slice A0_4 l0_4.length c0_4) := (blk_cell BK302.out 4).trans rfl
                have hcz10_5 : wr.cell? ⟨gb302, 5, none⟩ = some (.slice A0_5 l0_5.length c0_5) := (blk_cell BK302.out 5).trans rfl
                have hfz10_0 := blk_frozen BK302.out 0
                have hfz10_1 := blk_frozen BK302.out 1
                have hfz10_2 := blk_frozen BK302.out 2
                have hfz10_3 := blk_frozen BK302.out 3
                have hfz10_4 := blk_frozen BK302.out 4
                have hfz10_5 := blk_frozen BK302.out 5
                have p304 : 0 ≤ (x8_1 : Int) := of_decide_eq_true (by first | (with_reducible assumption) | assumption)
                have q304 : x8_1 < (l0_1.length : Int) := of_decide_eq_true (by first | (with_reducible assumption) | assumption)
                obtain ⟨ad304, e304, hx304_0⟩ := Kd.at_int HR0_1.out x8_1 p304 q304
                cases e304
                replace hx304_0 := (HB.out.cell (World.block_lt_of_cell? w _ hx304_0)).trans hx304_0
                replace p304 := eq_true p304
                replace q304 := eq_true q304
                go_wp2
                go_roundg k1
                case measure => have := HK1.out; omega
                case rel => exact ⟨(wrap64 (x8_1 + 1)), (by first | rfl | (simp; done) | (simp [*]; done)), H', ⟨by have := HK1.out; omega⟩, ⟨by (with_reducible repeat (first | refine blk_drewN ?_ _ | refine blk_drew ?_ | refine blk_alloc ?_ _)); exact BK302.out⟩, ⟨by repeat (first | (with_reducible first | exact HB.out | apply below_alloc | apply pw_below_drewN | apply below_drew1 | refine below_set ?_ GE302.out) | exact HB.out)⟩⟩
            · rw [if_neg c7] at H
              exact absurd H (by simp)
          · rw [if_neg c6] at H
            exact absurd H (by simp)
        · rw [if_neg c5] at H
          exact absurd H (by simp)
      · rw [if_neg c4] at H
        have c4b0 : decide (x8_1 < (l0_0.length : Int)) = false := decide_eq_false c4
        clear c4
        obtain rfl := Option.some.inj H
        go_wp2
        go_ret
        exact ⟨by first | rfl | (simp [errW_none, errW_some] <;> rfl) | (simp [*, errW_none, errW_some] <;> rfl), by repeat (first | (with_reducible first | exact HB.out | apply below_alloc | apply pw_below_drewN | apply below_drew1 | refine below_set ?_ GE302.out) | exact HB.out)⟩

-- NOT PRINTED: function 6 (downpourlaw20_SchedSteps)

/-! ### slices_Index_int_int: function 56 -/
end Go.Proofs.Ythnimpbcfegmjaa.P

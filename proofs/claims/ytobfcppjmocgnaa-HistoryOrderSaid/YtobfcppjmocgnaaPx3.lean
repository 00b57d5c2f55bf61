/- Functions and their contracts, printed by stubprint.py (a program of this repo, which runs the kit's print with some functions proved by hand): each call answers what the plain function tells. -/
import Derived.Test.YtobfcppjmocgnaaPx0
import Derived.Test.YtobfcppjmocgnaaPx1
import Derived.Test.YtobfcppjmocgnaaPx2
namespace Go.Proofs.Ytobfcppjmocgnaa.P
open Go.RowKit
open Go.RowKit Go.Proofs.YtobfcppjmocgnaaW.PrintWords Go.Proofs.YtobfcppjmocgnaaW.PrintLast Go.Proofs.YtobfcppjmocgnaaW.PrintMore
attribute [local go_sem] max2_int min2_int max_two min_two max_three min_three max_four min_four   -- for this text's walks alone
set_option linter.unusedVariables false
set_option linter.unusedSimpArgs false

attribute [local go_sem high] eqA36
/-! ### downpourref22_Right: function 10 -/
mutual
def downpourref22_Right.l0 : Nat → List (S53) → List (S53) → Int → Int → Option (Bool)
  | 0, _, _, _, _ => none
  | k + 1, x0, x6, x7, x8 => if x8 < x7 then (if 0 ≤ x8 then (if x8 < (x6.length : Int) then ((downpourref22_count.f k x0 x8).bind fun bt116 => (if ((rd_T53 x6 x8).f0) < 0 then (downpourref22_Right.j1 k x0 x6 x7 x8 true ((rd_T53 x6 x8).f0) ((rd_T53 x6 x8).f1) ((rd_T53 x6 x8).f2) ((rd_T53 x6 x8).f3.f0) ((rd_T53 x6 x8).f3.f1) ((rd_T53 x6 x8).f3.f2) ((rd_T53 x6 x8).f3.f3) ((rd_T53 x6 x8).f3.f4) ((rd_T53 x6 x8).f3.f5.f0) ((rd_T53 x6 x8).f3.f5.f1) ((rd_T53 x6 x8).f4.f0) ((rd_T53 x6 x8).f4.f1) ((rd_T53 x6 x8).f4.f2) bt116.1 bt116.2) else (if ((rd_T53 x6 x8).f0) > 3 then (downpourref22_Right.j1 k x0 x6 x7 x8 true ((rd_T53 x6 x8).f0) ((rd_T53 x6 x8).f1) ((rd_T53 x6 x8).f2) ((rd_T53 x6 x8).f3.f0) ((rd_T53 x6 x8).f3.f1) ((rd_T53 x6 x8).f3.f2) ((rd_T53 x6 x8).f3.f3) ((rd_T53 x6 x8).f3.f4) ((rd_T53 x6 x8).f3.f5.f0) ((rd_T53 x6 x8).f3.f5.f1) ((rd_T53 x6 x8).f4.f0) ((rd_T53 x6 x8).f4.f1) ((rd_T53 x6 x8).f4.f2) bt116.1 bt116.2) else (if ((rd_T53 x6 x8).f1) = (Int.tmod bt116.1 2) then (downpourref22_Right.j1 k x0 x6 x7 x8 (((rd_T53 x6 x8).f2) != (wrap64 (Int.tdiv bt116.1 2))) ((rd_T53 x6 x8).f0) ((rd_T53 x6 x8).f1) ((rd_T53 x6 x8).f2) ((rd_T53 x6 x8).f3.f0) ((rd_T53 x6 x8).f3.f1) ((rd_T53 x6 x8).f3.f2) ((rd_T53 x6 x8).f3.f3) ((rd_T53 x6 x8).f3.f4) ((rd_T53 x6 x8).f3.f5.f0) ((rd_T53 x6 x8).f3.f5.f1) ((rd_T53 x6 x8).f4.f0) ((rd_T53 x6 x8).f4.f1) ((rd_T53 x6 x8).f4.f2) bt116.1 bt116.2) else (downpourref22_Right.j1 k x0 x6 x7 x8 true ((rd_T53 x6 x8).f0) ((rd_T53 x6 x8).f1) ((rd_T53 x6 x8).f2) ((rd_T53 x6 x8).f3.f0) ((rd_T53 x6 x8).f3.f1) ((rd_T53 x6 x8).f3.f2) ((rd_T53 x6 x8).f3.f3) ((rd_T53 x6 x8).f3.f4) ((rd_T53 x6 x8).f3.f5.f0) ((rd_T53 x6 x8).f3.f5.f1) ((rd_T53 x6 x8).f4.f0) ((rd_T53 x6 x8).f4.f1) ((rd_T53 x6 x8).f4.f2) bt116.1 bt116.2))))) else (none)) else (none)) else (some (decide ((x0.length : Int) ≤ 48)))
def downpourref22_Right.j1 : Nat → List (S53) → List (S53) → Int → Int → Bool → Int → Int → Int → Int → Int → Int → Int → Int → Int → ByteArray → Int → Int → List ByteArray → Int → Int → Option (Bool)
  | 0, _, _, _, _, _, _, _, _, _, _, _, _, _, _, _, _, _, _, _, _ => none
  | k + 1, x0, x6, x7, x8, x39, x116000, x116001, x116002, x116003, x116004, x116005, x116006, x116007, x116008, x116009, x116010, x116011, x116012, x119000, x119001 => if x39 = true then (some false) else (if x116001 = 1 then (if 0 ≤ x119001 then (if x119001 < (x0.length : Int) then (if (!(x116003 == ((rd_T53 x0 x119001).f3.f0)) || (!(x116004 == ((rd_T53 x0 x119001).f3.f1)) || (!(x116005 == ((rd_T53 x0 x119001).f3.f2)) || (!(x116006 == ((rd_T53 x0 x119001).f3.f3)) || (!(x116007 == ((rd_T53 x0 x119001).f3.f4)) || ((!(x116008 == ((rd_T53 x0 x119001).f3.f5.f0)) || (!(x116009.toList == (((rd_T53 x0 x119001).f3.f5.f1).toList)))))))))) = true then (some false) else (downpourref22_Right.l0 k x0 x6 x7 (wrap64 (x8 + 1)))) else (none)) else (none)) else (downpourref22_Right.l0 k x0 x6 x7 (wrap64 (x8 + 1))))
end
def downpourref22_Right.f (k : Nat) (l0 : List (S53)) : Option (Bool) := downpourref22_Right.l0 k l0 l0 (l0.length : Int) 0
theorem downpourref22_Right.mono_l : ∀ k, (∀ y0 y1 y2 y3, LeO (downpourref22_Right.l0 k y0 y1 y2 y3) (downpourref22_Right.l0 (k + 1) y0 y1 y2 y3)) ∧ (∀ y0 y1 y2 y3 y4 y5 y6 y7 y8 y9 y10 y11 y12 y13 y14 y15 y16 y17 y18 y19, LeO (downpourref22_Right.j1 k y0 y1 y2 y3 y4 y5 y6 y7 y8 y9 y10 y11 y12 y13 y14 y15 y16 y17 y18 y19) (downpourref22_Right.j1 (k + 1) y0 y1 y2 y3 y4 y5 y6 y7 y8 y9 y10 y11 y12 y13 y14 y15 y16 y17 y18 y19))
  | 0 => ⟨fun _ _ _ _ r h => by simp [downpourref22_Right.l0] at h, fun _ _ _ _ _ _ _ _ _ _ _ _ _ _ _ _ _ _ _ _ r h => by simp [downpourref22_Right.j1] at h⟩
  | k + 1 => by
    obtain ⟨ih0, ih1⟩ := downpourref22_Right.mono_l k
    refine ⟨?_, ?_⟩
    · intro y0 y1 y2 y3
      unfold downpourref22_Right.l0
      repeat' first
      | (with_reducible exact ih0 _ _ _ _)
      | (with_reducible exact ih1 _ _ _ _ _ _ _ _ _ _ _ _ _ _ _ _ _ _ _ _)
      | (with_reducible exact downpourref22_count.mono _ _ _)
      | (with_reducible exact LeO.refl _)
      | (with_reducible exact LeO.none _)
      | (with_reducible refine LeO.ite ?_ ?_)
      | (with_reducible refine LeO.bind ?_ (fun _ => ?_))
      | exact ih0 _ _ _ _
      | exact ih1 _ _ _ _ _ _ _ _ _ _ _ _ _ _ _ _ _ _ _ _
      | exact downpourref22_count.mono _ _ _
      | exact LeO.none _
      | refine LeO.ite ?_ ?_
      | refine LeO.bind ?_ (fun _ => ?_)
    · intro y0 y1 y2 y3 y4 y5 y6 y7 y8 y9 y10 y11 y12 y13 y14 y15 y16 y17 y18 y19
      unfold downpourref22_Right.j1
      repeat' first
      | (with_reducible exact ih0 _ _ _ _)
      | (with_reducible exact ih1 _ _ _ _ _ _ _ _ _ _ _ _ _ _ _ _ _ _ _ _)
      | (with_reducible exact downpourref22_count.mono _ _ _)
      | (with_reducible exact LeO.refl _)
      | (with_reducible exact LeO.none _)
      | (with_reducible refine LeO.ite ?_ ?_)
      | (with_reducible refine LeO.bind ?_ (fun _ => ?_))
      | exact ih0 _ _ _ _
      | exact ih1 _ _ _ _ _ _ _ _ _ _ _ _ _ _ _ _ _ _ _ _
      | exact downpourref22_count.mono _ _ _
      | exact LeO.none _
      | refine LeO.ite ?_ ?_
      | refine LeO.bind ?_ (fun _ => ?_)
theorem downpourref22_Right.mono : ∀ a0 k, LeO (downpourref22_Right.f k a0) (downpourref22_Right.f (k + 1) a0) := by
  intro a0 k
  obtain ⟨ih0, ih1⟩ := downpourref22_Right.mono_l k
  unfold downpourref22_Right.f
  repeat' first
      | (with_reducible exact ih0 _ _ _ _)
      | (with_reducible exact ih1 _ _ _ _ _ _ _ _ _ _ _ _ _ _ _ _ _ _ _ _)
      | (with_reducible exact downpourref22_count.mono _ _ _)
      | (with_reducible exact LeO.refl _)
      | (with_reducible exact LeO.none _)
      | (with_reducible refine LeO.ite ?_ ?_)
      | (with_reducible refine LeO.bind ?_ (fun _ => ?_))
      | exact ih0 _ _ _ _
      | exact ih1 _ _ _ _ _ _ _ _ _ _ _ _ _ _ _ _ _ _ _ _
      | exact downpourref22_count.mono _ _ _
      | exact LeO.none _
      | refine LeO.ite ?_ ?_
      | refine LeO.bind ?_ (fun _ => ?_)
set_option maxHeartbeats 8000000 in
set_option maxRecDepth 100000 in
theorem downpourref22_Right.calls (k : Nat) (A0 : Option Addr) (c0 : Nat) (l0 : List (S53)) (r : Bool) (w : World) (hr0 : Kd.C k53 w A0 l0.length l0) (hc0 : l0.length ≤ c0) (h : downpourref22_Right.f k l0 = some r) :
    Calls Try.prog 10 #[.slice A0 l0.length c0] w fun e w' => e = .returned (.bool r) ∧ Below w.heap.size w w' := by
  have hu53 := Try.underlying53
  have hu58 := Try.underlying58
  have hu36 := Try.underlying36
  have HR0 := Aside0.mk hr0
  have HC0 := Aside0.mk hc0
  clear hr0 hc0
  have HB := Aside0.mk (Below.refl w.heap.size w)
  have H : (downpourref22_Right.l0 k l0 l0 (l0.length : Int) 0) = some r := h
  clear h
  have H' := Aside0.mk H
  clear H
  go_enter Try.func10, Try.ntmps10
  go_wp2
  repeat (go_quiet (fail); try go_wp2)
  go_loopg [8] k (fun kq v8 w' => ∃ (x8_1 : Int), v8 = .int .i64 x8_1 ∧ Aside0 (downpourref22_Right.l0 kq l0 l0 (l0.length : Int) x8_1 = some r) ∧ Aside0 (kq ≤ k) ∧ Aside0 (Below w.heap.size w w'))
  case atStart => exact ⟨(0), (by first | rfl | (simp; done) | (simp [*]; done) | (rw [Int.tdiv_eq_ediv_of_nonneg]; decide)), H', ⟨Nat.le_refl _⟩, ⟨by repeat (first | (with_reducible first | exact HB.out | apply below_alloc | apply pw_below_drewN | apply below_drew1) | exact HB.out)⟩⟩
  case round =>
    clear H'
    try clear c1
    obtain ⟨x8_1, rfl, HA, HK1, HB⟩ := hrel
    cases gk with
    | zero => exact absurd HA.out (by simp [downpourref22_Right.l0])
    | succ k1 =>
      have H := HA.out
      clear HA
      simp only [downpourref22_Right.l0] at H
      by_cases c2 : x8_1 < (l0.length : Int)
      · rw [if_pos c2] at H
        have c2b0 : decide (x8_1 < (l0.length : Int)) = true := decide_eq_true c2
        clear c2
        by_cases c3 : 0 ≤ x8_1
        · rw [if_pos c3] at H
          have c3b0 : decide (0 ≤ x8_1) = true := decide_eq_true c3
          clear c3
          by_cases c4 : x8_1 < (l0.length : Int)
          · rw [if_pos c4] at H
            have c4b0 : decide (x8_1 < (l0.length : Int)) = true := decide_eq_true c4
            clear c4
            replace H := Option.bind_eq_some_iff.mp H
            obtain ⟨⟨t116, t117⟩, A50, H⟩ := H
            replace H : (if ((rd_T53 l0 x8_1).f0) < 0 then (downpourref22_Right.j1 k1 l0 l0 (l0.length : Int) x8_1 true ((rd_T53 l0 x8_1).f0) ((rd_T53 l0 x8_1).f1) ((rd_T53 l0 x8_1).f2) ((rd_T53 l0 x8_1).f3.f0) ((rd_T53 l0 x8_1).f3.f1) ((rd_T53 l0 x8_1).f3.f2) ((rd_T53 l0 x8_1).f3.f3) ((rd_T53 l0 x8_1).f3.f4) ((rd_T53 l0 x8_1).f3.f5.f0) ((rd_T53 l0 x8_1).f3.f5.f1) ((rd_T53 l0 x8_1).f4.f0) ((rd_T53 l0 x8_1).f4.f1) ((rd_T53 l0 x8_1).f4.f2) t116 t117) else (if ((rd_T53 l0 x8_1).f0) > 3 then (downpourref22_Right.j1 k1 l0 l0 (l0.length : Int) x8_1 true ((rd_T53 l0 x8_1).f0) ((rd_T53 l0 x8_1).f1) ((rd_T53 l0 x8_1).f2) ((rd_T53 l0 x8_1).f3.f0) ((rd_T53 l0 x8_1).f3.f1) ((rd_T53 l0 x8_1).f3.f2) ((rd_T53 l0 x8_1).f3.f3) ((rd_T53 l0 x8_1).f3.f4) ((rd_T53 l0 x8_1).f3.f5.f0) ((rd_T53 l0 x8_1).f3.f5.f1) ((rd_T53 l0 x8_1).f4.f0) ((rd_T53 l0 x8_1).f4.f1) ((rd_T53 l0 x8_1).f4.f2) t116 t117) else (if ((rd_T53 l0 x8_1).f1) = (Int.tmod t116 2) then (downpourref22_Right.j1 k1 l0 l0 (l0.length : Int) x8_1 (((rd_T53 l0 x8_1).f2) != (wrap64 (Int.tdiv t116 2))) ((rd_T53 l0 x8_1).f0) ((rd_T53 l0 x8_1).f1) ((rd_T53 l0 x8_1).f2) ((rd_T53 l0 x8_1).f3.f0) ((rd_T53 l0 x8_1).f3.f1) ((rd_T53 l0 x8_1).f3.f2) ((rd_T53 l0 x8_1).f3.f3) ((rd_T53 l0 x8_1).f3.f4) ((rd_T53 l0 x8_1).f3.f5.f0) ((rd_T53 l0 x8_1).f3.f5.f1) ((rd_T53 l0 x8_1).f4.f0) ((rd_T53 l0 x8_1).f4.f1) ((rd_T53 l0 x8_1).f4.f2) t116 t117) else (downpourref22_Right.j1 k1 l0 l0 (l0.length : Int) x8_1 true ((rd_T53 l0 x8_1).f0) ((rd_T53 l0 x8_1).f1) ((rd_T53 l0 x8_1).f2) ((rd_T53 l0 x8_1).f3.f0) ((rd_T53 l0 x8_1).f3.f1) ((rd_T53 l0 x8_1).f3.f2) ((rd_T53 l0 x8_1).f3.f3) ((rd_T53 l0 x8_1).f3.f4) ((rd_T53 l0 x8_1).f3.f5.f0) ((rd_T53 l0 x8_1).f3.f5.f1) ((rd_T53 l0 x8_1).f4.f0) ((rd_T53 l0 x8_1).f4.f1) ((rd_T53 l0 x8_1).f4.f2) t116 t117)))) = some r := H
            have A5 := Aside0.mk A50
            clear A50
            have HC6 := Aside0.mk H
            clear H
            have p114 : 0 ≤ (x8_1 : Int) := of_decide_eq_true (by first | (with_reducible assumption) | assumption)
            have q114 : x8_1 < (l0.length : Int) := of_decide_eq_true (by first | (with_reducible assumption) | assumption)
            obtain ⟨ad114, A114_12, c114_12, e114, hx114_0, hx114_1, hx114_2, hx114_3, hx114_4, hx114_5, hx114_6, hx114_7, hx114_8, hx114_9, hx114_10, hx114_11, hx114_12, hl114_12, hi114_12⟩ := at_T53 HR0.out x8_1 p114 q114
            cases e114
            replace hx114_0 := (HB.out.cell (World.block_lt_of_cell? w _ hx114_0)).trans hx114_0
            replace hx114_1 := (HB.out.cell (World.block_lt_of_cell? w _ hx114_1)).trans hx114_1
            replace hx114_2 := (HB.out.cell (World.block_lt_of_cell? w _ hx114_2)).trans hx114_2
            replace hx114_3 := (HB.out.cell (World.block_lt_of_cell? w _ hx114_3)).trans hx114_3
            replace hx114_4 := (HB.out.cell (World.block_lt_of_cell? w _ hx114_4)).trans hx114_4
            replace hx114_5 := (HB.out.cell (World.block_lt_of_cell? w _ hx114_5)).trans hx114_5
            replace hx114_6 := (HB.out.cell (World.block_lt_of_cell? w _ hx114_6)).trans hx114_6
            replace hx114_7 := (HB.out.cell (World.block_lt_of_cell? w _ hx114_7)).trans hx114_7
            replace hx114_8 := (HB.out.cell (World.block_lt_of_cell? w _ hx114_8)).trans hx114_8
            replace hx114_9 := (HB.out.cell (World.block_lt_of_cell? w _ hx114_9)).trans hx114_9
            replace hx114_10 := (HB.out.cell (World.block_lt_of_cell? w _ hx114_10)).trans hx114_10
            replace hx114_11 := (HB.out.cell (World.block_lt_of_cell? w _ hx114_11)).trans hx114_11
            replace hx114_12 := (HB.out.cell (World.block_lt_of_cell? w _ hx114_12)).trans hx114_12
            have HR114_12 := Aside0.mk hi114_12
            have HC114_12 := Aside0.mk hl114_12
            clear hi114_12 hl114_12
            replace p114 := eq_true p114
            replace q114 := eq_true q114
            go_upto_region 5 with (first | ((with_reducible refine gate_dst (N := 4) rfl ?_); refine box_event ?hg (N := 4) ?hd (cs := #[.int .i64 0, .int .i64 0, .int .i64 0, .int .i64 0, .int .u64 0, .int .i64 0, .int .i64 0, .int .i64 0, .int .u64 0, .string (⟨#[]⟩ : ByteArray), .int .i64 0, .int .i64 0, .slice none 0 0]) (t := 53) ?hr ?_; (case hd => rfl); (case hg => rfl); (case hr => first | (go_simp; done) | (go_simp; rfl)); intro gb115 hg w7 hbox hb; have n0_ := Aside0.mk (below_step (by repeat (first | (with_reducible first | exact HB.out | apply below_alloc | apply pw_below_drewN | apply below_drew1) | exact HB.out)) hb); have n1_ := Aside0.mk (hbox); have n2_ := Aside0.mk ((by rw [hg]; exact (below_size (by repeat (first | (with_reducible first | exact HB.out | apply below_alloc | apply pw_below_drewN | apply below_drew1) | exact HB.out))) : w.heap.size ≤ gb115)); have n3_ := Aside0.mk ((by rw [hg]; exact (below_size (by repeat (first | (with_reducible first | exact HB.out | apply below_alloc | apply pw_below_drewN | apply below_drew1) | exact HB.out))) : w.heap.size ≤ gb115)); clear HB; have HB := n0_; have BK115 := n1_; have GW115 := n2_; have GE115 := n3_; clear n0_ n1_ n2_ n3_; clear hb hbox hg; have hcz8_0 : w7.cell? ⟨gb115, 0, none⟩ = some (.int .i64 0) := (blk_cell BK115.out 0).trans rfl; have hcz8_1 : w7.cell? ⟨gb115, 1, none⟩ = some (.int .i64 0) := (blk_cell BK115.out 1).trans rfl; have hcz8_2 : w7.cell? ⟨gb115, 2, none⟩ = some (.int .i64 0) := (blk_cell BK115.out 2).trans rfl; have hcz8_3 : w7.cell? ⟨gb115, 3, none⟩ = some (.int .i64 0) := (blk_cell BK115.out 3).trans rfl; have hcz8_4 : w7.cell? ⟨gb115, 4, none⟩ = some (.int .u64 0) := (blk_cell BK115.out 4).trans rfl; have hcz8_5 : w7.cell? ⟨gb115, 5, none⟩ = some (.int .i64 0) := (blk_cell BK115.out 5).trans rfl; have hcz8_6 : w7.cell? ⟨gb115, 6, none⟩ = some (.int .i64 0) := (blk_cell BK115.out 6).trans rfl; have hcz8_7 : w7.cell? ⟨gb115, 7, none⟩ = some (.int .i64 0) := (blk_cell BK115.out 7).trans rfl; have hcz8_8 : w7.cell? ⟨gb115, 8, none⟩ = some (.int .u64 0) := (blk_cell BK115.out 8).trans rfl; have hcz8_9 : w7.cell? ⟨gb115, 9, none⟩ = some (.string (⟨#[]⟩ : ByteArray)) := (blk_cell BK115.out 9).trans rfl; have hcz8_10 : w7.cell? ⟨gb115, 10, none⟩ = some (.int .i64 0) := (blk_cell BK115.out 10).trans rfl; have hcz8_11 : w7.cell? ⟨gb115, 11, none⟩ = some (.int .i64 0) := (blk_cell BK115.out 11).trans rfl; have hcz8_12 : w7.cell? ⟨gb115, 12, none⟩ = some (.slice none 0 0) := (blk_cell BK115.out 12).trans rfl; have hfz8_0 := blk_frozen BK115.out 0; have hfz8_1 := blk_frozen BK115.out 1; have hfz8_2 := blk_frozen BK115.out 2; have hfz8_3 := blk_frozen BK115.out 3; have hfz8_4 := blk_frozen BK115.out 4; have hfz8_5 := blk_frozen BK115.out 5; have hfz8_6 := blk_frozen BK115.out 6; have hfz8_7 := blk_frozen BK115.out 7; have hfz8_8 := blk_frozen BK115.out 8; have hfz8_9 := blk_frozen BK115.out 9; have hfz8_10 := blk_frozen BK115.out 10; have hfz8_11 := blk_frozen BK115.out 11; have hfz8_12 := blk_frozen BK115.out 12) | (go_at_call 25; (with_reducible refine (downpourref22_count.calls k1 _ _ l0 x8_1 t116 t117 _ ?side1 ?side2 A5.out).mono ?_); (case side1 => exact Kd.C_below HR0.out (by repeat (first | (with_reducible first | exact HB.out | apply below_alloc | apply pw_below_drewN | apply below_drew1 | refine below_set ?_ GE115.out) | exact HB.out))); (case side2 => exact HC0.out); rintro e w9 ⟨rfl, hb⟩; have n0_ := Aside0.mk (blk_below (g := gb115) (o := .cells #[.int .i64 ((rd_T53 l0 x8_1).f0), .int .i64 ((rd_T53 l0 x8_1).f1), .int .i64 ((rd_T53 l0 x8_1).f2), .int .i64 ((rd_T53 l0 x8_1).f3.f0), .int .u64 ((rd_T53 l0 x8_1).f3.f1), .int .i64 ((rd_T53 l0 x8_1).f3.f2), .int .i64 ((rd_T53 l0 x8_1).f3.f3), .int .i64 ((rd_T53 l0 x8_1).f3.f4), .int .u64 ((rd_T53 l0 x8_1).f3.f5.f0), .string ((rd_T53 l0 x8_1).f3.f5.f1), .int .i64 ((rd_T53 l0 x8_1).f4.f0), .int .i64 ((rd_T53 l0 x8_1).f4.f1), .slice A114_12 ((rd_T53 l0 x8_1).f4.f2).length c114_12] 53 (0, 0)) (by (with_reducible repeat (first | refine blk_drewN ?_ _ | refine blk_drew ?_ | refine blk_alloc ?_ _)); refine blk_put (cs := #[.int .i64 ((rd_T53 l0 x8_1).f0), .int .i64 ((rd_T53 l0 x8_1).f1), .int .i64 ((rd_T53 l0 x8_1).f2), .int .i64 ((rd_T53 l0 x8_1).f3.f0), .int .u64 ((rd_T53 l0 x8_1).f3.f1), .int .i64 ((rd_T53 l0 x8_1).f3.f2), .int .i64 ((rd_T53 l0 x8_1).f3.f3), .int .i64 ((rd_T53 l0 x8_1).f3.f4), .int .u64 ((rd_T53 l0 x8_1).f3.f5.f0), .string ((rd_T53 l0 x8_1).f3.f5.f1), .int .i64 ((rd_T53 l0 x8_1).f4.f0), .int .i64 ((rd_T53 l0 x8_1).f4.f1), .slice none 0 0]) ?_ 12 _ rfl; (with_reducible repeat (first | refine blk_drewN ?_ _ | refine blk_drew ?_ | refine blk_alloc ?_ _)); refine blk_put (cs := #[.int .i64 ((rd_T53 l0 x8_1).f0), .int .i64 ((rd_T53 l0 x8_1).f1), .int .i64 ((rd_T53 l0 x8_1).f2), .int .i64 ((rd_T53 l0 x8_1).f3.f0), .int .u64 ((rd_T53 l0 x8_1).f3.f1), .int .i64 ((rd_T53 l0 x8_1).f3.f2), .int .i64 ((rd_T53 l0 x8_1).f3.f3), .int .i64 ((rd_T53 l0 x8_1).f3.f4), .int .u64 ((rd_T53 l0 x8_1).f3.f5.f0), .string ((rd_T53 l0 x8_1).f3.f5.f1), .int .i64 ((rd_T53 l0 x8_1).f4.f0), .int .i64 0, .slice none 0 0]) ?_ 11 _ rfl; (with_reducible repeat (first | refine blk_drewN ?_ _ | refine blk_drew ?_ | refine blk_alloc ?_ _)); refine blk_put (cs := #[.int .i64 ((rd_T53 l0 x8_1).f0), .int .i64 ((rd_T53 l0 x8_1).f1), .int .i64 ((rd_T53 l0 x8_1).f2), .int .i64 ((rd_T53 l0 x8_1).f3.f0), .int .u64 ((rd_T53 l0 x8_1).f3.f1), .int .i64 ((rd_T53 l0 x8_1).f3.f2), .int .i64 ((rd_T53 l0 x8_1).f3.f3), .int .i64 ((rd_T53 l0 x8_1).f3.f4), .int .u64 ((rd_T53 l0 x8_1).f3.f5.f0), .string ((rd_T53 l0 x8_1).f3.f5.f1), .int .i64 0, .int .i64 0, .slice none 0 0]) ?_ 10 _ rfl; (with_reducible repeat (first | refine blk_drewN ?_ _ | refine blk_drew ?_ | refine blk_alloc ?_ _)); refine blk_put (cs := #[.int .i64 ((rd_T53 l0 x8_1).f0), .int .i64 ((rd_T53 l0 x8_1).f1), .int .i64 ((rd_T53 l0 x8_1).f2), .int .i64 ((rd_T53 l0 x8_1).f3.f0), .int .u64 ((rd_T53 l0 x8_1).f3.f1), .int .i64 ((rd_T53 l0 x8_1).f3.f2), .int .i64 ((rd_T53 l0 x8_1).f3.f3), .int .i64 ((rd_T53 l0 x8_1).f3.f4), .int .u64 ((rd_T53 l0 x8_1).f3.f5.f0), .string (⟨#[]⟩ : ByteArray), .int .i64 0, .int .i64 0, .slice none 0 0]) ?_ 9 _ rfl; (with_reducible repeat (first | refine blk_drewN ?_ _ | refine blk_drew ?_ | refine blk_alloc ?_ _)); refine blk_put (cs := #[.int .i64 ((rd_T53 l0 x8_1).f0), .int .i64 ((rd_T53 l0 x8_1).f1), .int .i64 ((rd_T53 l0 x8_1).f2), .int .i64 ((rd_T53 l0 x8_1).f3.f0), .int .u64 ((rd_T53 l0 x8_1).f3.f1), .int .i64 ((rd_T53 l0 x8_1).f3.f2), .int .i64 ((rd_T53 l0 x8_1).f3.f3), .int .i64 ((rd_T53 l0 x8_1).f3.f4), .int .u64 0, .string (⟨#[]⟩ : ByteArray), .int .i64 0, .int .i64 0, .slice none 0 0]) ?_ 8 _ rfl; (with_reducible repeat (first | refine blk_drewN ?_ _ | refine blk_drew ?_ | refine blk_alloc ?_ _)); refine blk_put (cs := #[.int .i64 ((rd_T53 l0 x8_1).f0), .int .i64 ((rd_T53 l0 x8_1).f1), .int .i64 ((rd_T53 l0 x8_1).f2), .int .i64 ((rd_T53 l0 x8_1).f3.f0), .int .u64 ((rd_T53 l0 x8_1).f3.f1), .int .i64 ((rd_T53 l0 x8_1).f3.f2), .int .i64 ((rd_T53 l0 x8_1).f3.f3), .int .i64 0, .int .u64 0, .string (⟨#[]⟩ : ByteArray), .int .i64 0, .int .i64 0, .slice none 0 0]) ?_ 7 _ rfl; (with_reducible repeat (first | refine blk_drewN ?_ _ | refine blk_drew ?_ | refine blk_alloc ?_ _)); refine blk_put (cs := #[.int .i64 ((rd_T53 l0 x8_1).f0), .int .i64 ((rd_T53 l0 x8_1).f1), .int .i64 ((rd_T53 l0 x8_1).f2), .int .i64 ((rd_T53 l0 x8_1).f3.f0), .int .u64 ((rd_T53 l0 x8_1).f3.f1), .int .i64 ((rd_T53 l0 x8_1).f3.f2), .int .i64 0, .int .i64 0, .int .u64 0, .string (⟨#[]⟩ : ByteArray), .int .i64 0, .int .i64 0, .slice none 0 0]) ?_ 6 _ rfl; (with_reducible repeat (first | refine blk_drewN ?_ _ | refine blk_drew ?_ | refine blk_alloc ?_ _)); refine blk_put (cs := #[.int .i64 ((rd_T53 l0 x8_1).f0), .int .i64 ((rd_T53 l0 x8_1).f1), .int .i64 ((rd_T53 l0 x8_1).f2), .int .i64 ((rd_T53 l0 x8_1).f3.f0), .int .u64 ((rd_T53 l0 x8_1).f3.f1), .int .i64 0, .int .i64 0, .int .i64 0, .int .u64 0, .string (⟨#[]⟩ : ByteArray), .int .i64 0, .int .i64 0, .slice none 0 0]) ?_ 5 _ rfl; (with_reducible repeat (first | refine blk_drewN ?_ _ | refine blk_drew ?_ | refine blk_alloc ?_ _)); refine blk_put (cs := #[.int .i64 ((rd_T53 l0 x8_1).f0), .int .i64 ((rd_T53 l0 x8_1).f1), .int .i64 ((rd_T53 l0 x8_1).f2), .int .i64 ((rd_T53 l0 x8_1).f3.f0), .int .u64 0, .int .i64 0, .int .i64 0, .int .i64 0, .int .u64 0, .string (⟨#[]⟩ : ByteArray), .int .i64 0, .int .i64 0, .slice none 0 0]) ?_ 4 _ rfl; (with_reducible repeat (first | refine blk_drewN ?_ _ | refine blk_drew ?_ | refine blk_alloc ?_ _)); refine blk_put (cs := #[.int .i64 ((rd_T53 l0 x8_1).f0), .int .i64 ((rd_T53 l0 x8_1).f1), .int .i64 ((rd_T53 l0 x8_1).f2), .int .i64 0, .int .u64 0, .int .i64 0, .int .i64 0, .int .i64 0, .int .u64 0, .string (⟨#[]⟩ : ByteArray), .int .i64 0, .int .i64 0, .slice none 0 0]) ?_ 3 _ rfl; (with_reducible repeat (first | refine blk_drewN ?_ _ | refine blk_drew ?_ | refine blk_alloc ?_ _)); refine blk_put (cs := #[.int .i64 ((rd_T53 l0 x8_1).f0), .int .i64 ((rd_T53 l0 x8_1).f1), .int .i64 0, .int .i64 0, .int .u64 0, .int .i64 0, .int .i64 0, .int .i64 0, .int .u64 0, .string (⟨#[]⟩ : ByteArray), .int .i64 0, .int .i64 0, .slice none 0 0]) ?_ 2 _ rfl; (with_reducible repeat (first | refine blk_drewN ?_ _ | refine blk_drew ?_ | refine blk_alloc ?_ _)); refine blk_put (cs := #[.int .i64 ((rd_T53 l0 x8_1).f0), .int .i64 0, .int .i64 0, .int .i64 0, .int .u64 0, .int .i64 0, .int .i64 0, .int .i64 0, .int .u64 0, .string (⟨#[]⟩ : ByteArray), .int .i64 0, .int .i64 0, .slice none 0 0]) ?_ 1 _ rfl; (with_reducible repeat (first | refine blk_drewN ?_ _ | refine blk_drew ?_ | refine blk_alloc ?_ _)); refine blk_put (cs := #[.int .i64 0, .int .i64 0, .int .i64 0, .int .i64 0, .int .u64 0, .int .i64 0, .int .i64 0, .int .i64 0, .int .u64 0, .string (⟨#[]⟩ : ByteArray), .int .i64 0, .int .i64 0, .slice none 0 0]) ?_ 0 _ rfl; (with_reducible repeat (first | refine blk_drewN ?_ _ | refine blk_drew ?_ | refine blk_alloc ?_ _)); exact BK115.out) hb); have n1_ := Aside0.mk (below_step (by repeat (first | (with_reducible first | exact HB.out | apply below_alloc | apply pw_below_drewN | apply below_drew1 | refine below_set ?_ GE115.out) | exact HB.out)) hb); clear BK115; clear HB; have BK115 := n0_; have HB := n1_; clear n0_ n1_; (try clear hb); (try clear hb2); (try clear hk); (try clear hi)) | ((with_reducible refine gate_dst (N := 5) rfl ?_); refine box_event ?hg (N := 5) ?hd (cs := #[.int .i64 0, .int .i64 0]) (t := 58) ?hr ?_; (case hd => rfl); (case hg => rfl); (case hr => first | (go_simp; done) | (go_simp; rfl)); intro gb118 hg w10 hbox hb; have n0_ := Aside0.mk (blk_below (g := gb115) (o := .cells #[.int .i64 ((rd_T53 l0 x8_1).f0), .int .i64 ((rd_T53 l0 x8_1).f1), .int .i64 ((rd_T53 l0 x8_1).f2), .int .i64 ((rd_T53 l0 x8_1).f3.f0), .int .u64 ((rd_T53 l0 x8_1).f3.f1), .int .i64 ((rd_T53 l0 x8_1).f3.f2), .int .i64 ((rd_T53 l0 x8_1).f3.f3), .int .i64 ((rd_T53 l0 x8_1).f3.f4), .int .u64 ((rd_T53 l0 x8_1).f3.f5.f0), .string ((rd_T53 l0 x8_1).f3.f5.f1), .int .i64 ((rd_T53 l0 x8_1).f4.f0), .int .i64 ((rd_T53 l0 x8_1).f4.f1), .slice A114_12 ((rd_T53 l0 x8_1).f4.f2).length c114_12] 53 (0, 0)) (by (with_reducible repeat (first | refine blk_drewN ?_ _ | refine blk_drew ?_ | refine blk_alloc ?_ _)); exact BK115.out) hb); have n1_ := Aside0.mk (below_step (by repeat (first | (with_reducible first | exact HB.out | apply below_alloc | apply pw_below_drewN | apply below_drew1 | refine below_set ?_ GE115.out) | exact HB.out)) hb); have n2_ := Aside0.mk (hbox); have n3_ := Aside0.mk ((by rw [hg]; exact (below_size (by repeat (first | (with_reducible first | exact HB.out | apply below_alloc | apply pw_below_drewN | apply below_drew1 | refine below_set ?_ GE115.out) | exact HB.out))) : w.heap.size ≤ gb118)); have n4_ := Aside0.mk ((by rw [hg]; exact (below_size (by repeat (first | (with_reducible first | exact HB.out | apply below_alloc | apply pw_below_drewN | apply below_drew1 | refine below_set ?_ GE115.out) | exact HB.out))) : w.heap.size ≤ gb118)); have n5_ := Aside0.mk ((by rw [hg]; exact Nat.ne_of_lt (blk_lt (g := gb115) (o := .cells #[.int .i64 ((rd_T53 l0 x8_1).f0), .int .i64 ((rd_T53 l0 x8_1).f1), .int .i64 ((rd_T53 l0 x8_1).f2), .int .i64 ((rd_T53 l0 x8_1).f3.f0), .int .u64 ((rd_T53 l0 x8_1).f3.f1), .int .i64 ((rd_T53 l0 x8_1).f3.f2), .int .i64 ((rd_T53 l0 x8_1).f3.f3), .int .i64 ((rd_T53 l0 x8_1).f3.f4), .int .u64 ((rd_T53 l0 x8_1).f3.f5.f0), .string ((rd_T53 l0 x8_1).f3.f5.f1), .int .i64 ((rd_T53 l0 x8_1).f4.f0), .int .i64 ((rd_T53 l0 x8_1).f4.f1), .slice A114_12 ((rd_T53 l0 x8_1).f4.f2).length c114_12] 53 (0, 0)) (by (with_reducible repeat (first | refine blk_drewN ?_ _ | refine blk_drew ?_ | refine blk_alloc ?_ _)); exact BK115.out)) : gb115 ≠ gb118)); have n6_ := Aside0.mk ((by rw [hg]; exact Nat.ne_of_gt (blk_lt (g := gb115) (o := .cells #[.int .i64 ((rd_T53 l0 x8_1).f0), .int .i64 ((rd_T53 l0 x8_1).f1), .int .i64 ((rd_T53 l0 x8_1).f2), .int .i64 ((rd_T53 l0 x8_1).f3.f0), .int .u64 ((rd_T53 l0 x8_1).f3.f1), .int .i64 ((rd_T53 l0 x8_1).f3.f2), .int .i64 ((rd_T53 l0 x8_1).f3.f3), .int .i64 ((rd_T53 l0 x8_1).f3.f4), .int .u64 ((rd_T53 l0 x8_1).f3.f5.f0), .string ((rd_T53 l0 x8_1).f3.f5.f1), .int .i64 ((rd_T53 l0 x8_1).f4.f0), .int .i64 ((rd_T53 l0 x8_1).f4.f1), .slice A114_12 ((rd_T53 l0 x8_1).f4.f2).length c114_12] 53 (0, 0)) (by (with_reducible repeat (first | refine blk_drewN ?_ _ | refine blk_drew ?_ | refine blk_alloc ?_ _)); exact BK115.out)) : gb118 ≠ gb115)); clear BK115; clear HB; have BK115 := n0_; have HB := n1_; have BK118 := n2_; have GW118 := n3_; have GE118 := n4_; have NB115_118 := n5_; have NB118_115 := n6_; clear n0_ n1_ n2_ n3_ n4_ n5_ n6_; clear hb hbox hg; have hnb11 := NB118_115.out; have hnc11 := NB115_118.out; have hcz12_0 : w10.cell? ⟨gb118, 0, none⟩ = some (.int .i64 0) := (blk_cell BK118.out 0).trans rfl; have hcz12_1 : w10.cell? ⟨gb118, 1, none⟩ = some (.int .i64 0) := (blk_cell BK118.out 1).trans rfl; have hfz12_0 := blk_frozen BK118.out 0; have hfz12_1 := blk_frozen BK118.out 1))
            repeat (go_quiet (first | ((with_reducible refine gate_dst (N := 4) rfl ?_); refine box_event ?hg (N := 4) ?hd (cs := #[.int .i64 0, .int .i64 0, .int .i64 0, .int .i64 0, .int .u64 0, .int .i64 0, .int .i64 0, .int .i64 0, .int .u64 0, .string (⟨#[]⟩ : ByteArray), .int .i64 0, .int .i64 0, .slice none 0 0]) (t := 53) ?hr ?_; (case hd => rfl); (case hg => rfl); (case hr => first | (go_simp; done) | (go_simp; rfl)); intro gb115 hg w7 hbox hb; have n0_ := Aside0.mk (below_step (by repeat (first | (with_reducible first | exact HB.out | apply below_alloc | apply pw_below_drewN | apply below_drew1) | exact HB.out)) hb); have n1_ := Aside0.mk (hbox); have n2_ := Aside0.mk ((by rw [hg]; exact (below_size (by repeat (first | (with_reducible first | exact HB.out | apply below_alloc | apply pw_below_drewN | apply below_drew1) | exact HB.out))) : w.heap.size ≤ gb115)); have n3_ := Aside0.mk ((by rw [hg]; exact (below_size (by repeat (first | (with_reducible first | exact HB.out | apply below_alloc | apply pw_below_drewN | apply below_drew1) | exact HB.out))) : w.heap.size ≤ gb115)); clear HB; have HB := n0_; have BK115 := n1_; have GW115 := n2_; have GE115 := n3_; clear n0_ n1_ n2_ n3_; clear hb hbox hg; have hcz8_0 : w7.cell? ⟨gb115, 0, none⟩ = some (.int .i64 0) := (blk_cell BK115.out 0).trans rfl; have hcz8_1 : w7.cell? ⟨gb115, 1, none⟩ = some (.int .i64 0) := (blk_cell BK115.out 1).trans rfl; have hcz8_2 : w7.cell? ⟨gb115, 2, none⟩ = some (.int .i64 0) := (blk_cell BK115.out 2).trans rfl; have hcz8_3 : w7.cell? ⟨gb115, 3, none⟩ = some (.int .i64 0) := (blk_cell BK115.out 3).trans rfl; have hcz8_4 : w7.cell? ⟨gb115, 4, none⟩ = some (.int .u64 0) := (blk_cell BK115.out 4).trans rfl; have hcz8_5 : w7.cell? ⟨gb115, 5, none⟩ = some (.int .i64 0) := (blk_cell BK115.out 5).trans rfl; have hcz8_6 : w7.cell? ⟨gb115, 6, none⟩ = some (.int .i64 0) := (blk_cell BK115.out 6).trans rfl; have hcz8_7 : w7.cell? ⟨gb115, 7, none⟩ = some (.int .i64 0) := (blk_cell BK115.out 7).trans rfl; have hcz8_8 : w7.cell? ⟨gb115, 8, none⟩ = some (.int .u64 0) := (blk_cell BK115.out 8).trans rfl; have hcz8_9 : w7.cell? ⟨gb115, 9, none⟩ = some (.string (⟨#[]⟩ : ByteArray)) := (blk_cell BK115.out 9).trans rfl; have hcz8_10 : w7.cell? ⟨gb115, 10, none⟩ = some (.int .i64 0) := (blk_cell BK115.out 10).trans rfl; have hcz8_11 : w7.cell? ⟨gb115, 11, none⟩ = some (.int .i64 0) := (blk_cell BK115.out 11).trans rfl; have hcz8_12 : w7.cell? ⟨gb115, 12, none⟩ = some (.slice none 0 0) := (blk_cell BK115.out 12).trans rfl; have hfz8_0 := blk_frozen BK115.out 0; have hfz8_1 := blk_frozen BK115.out 1; have hfz8_2 := blk_frozen BK115.out 2; have hfz8_3 := blk_frozen BK115.out 3; have hfz8_4 := blk_frozen BK115.out 4; have hfz8_5 := blk_frozen BK115.out 5; have hfz8_6 := blk_frozen BK115.out 6; have hfz8_7 := blk_frozen BK115.out 7; have hfz8_8 := blk_frozen BK115.out 8; have hfz8_9 := blk_frozen BK115.out 9; have hfz8_10 := blk_frozen BK115.out 10; have hfz8_11 := blk_frozen BK115.out 11; have hfz8_12 := blk_frozen BK115.out 12) | (go_at_call 25; (with_reducible refine (downpourref22_count.calls k1 _ _ l0 x8_1 t116 t117 _ ?side1 ?side2 A5.out).mono ?_); (case side1 => exact Kd.C_below HR0.out (by repeat (first | (with_reducible first | exact HB.out | apply below_alloc | apply pw_below_drewN | apply below_drew1 | refine below_set ?_ GE115.out) | exact HB.out))); (case side2 => exact HC0.out); rintro e w9 ⟨rfl, hb⟩; have n0_ := Aside0.mk (blk_below (g := gb115) (o := .cells #[.int .i64 ((rd_T53 l0 x8_1).f0), .int .i64 ((rd_T53 l0 x8_1).f1), .int .i64 ((rd_T53 l0 x8_1).f2), .int .i64 ((rd_T53 l0 x8_1).f3.f0), .int .u64 ((rd_T53 l0 x8_1).f3.f1), .int .i64 ((rd_T53 l0 x8_1).f3.f2), .int .i64 ((rd_T53 l0 x8_1).f3.f3), .int .i64 ((rd_T53 l0 x8_1).f3.f4), .int .u64 ((rd_T53 l0 x8_1).f3.f5.f0), .string ((rd_T53 l0 x8_1).f3.f5.f1), .int .i64 ((rd_T53 l0 x8_1).f4.f0), .int .i64 ((rd_T53 l0 x8_1).f4.f1), .slice A114_12 ((rd_T53 l0 x8_1).f4.f2).length c114_12] 53 (0, 0)) (by (with_reducible repeat (first | refine blk_drewN ?_ _ | refine blk_drew ?_ | refine blk_alloc ?_ _)); refine blk_put (cs := #[.int .i64 ((rd_T53 l0 x8_1).f0), .int .i64 ((rd_T53 l0 x8_1).f1), .int .i64 ((rd_T53 l0 x8_1).f2), .int .i64 ((rd_T53 l0 x8_1).f3.f0), .int .u64 ((rd_T53 l0 x8_1).f3.f1), .int .i64 ((rd_T53 l0 x8_1).f3.f2), .int .i64 ((rd_T53 l0 x8_1).f3.f3), .int .i64 ((rd_T53 l0 x8_1).f3.f4), .int .u64 ((rd_T53 l0 x8_1).f3.f5.f0), .string ((rd_T53 l0 x8_1).f3.f5.f1), .int .i64 ((rd_T53 l0 x8_1).f4.f0), .int .i64 ((rd_T53 l0 x8_1).f4.f1), .slice none 0 0]) ?_ 12 _ rfl; (with_reducible repeat (first | refine blk_drewN ?_ _ | refine blk_drew ?_ | refine blk_alloc ?_ _)); refine blk_put (cs := #[.int .i64 ((rd_T53 l0 x8_1).f0), .int .i64 ((rd_T53 l0 x8_1).f1), .int .i64 ((rd_T53 l0 x8_1).f2), .int .i64 ((rd_T53 l0 x8_1).f3.f0), .int .u64 ((rd_T53 l0 x8_1).f3.f1), .int .i64 ((rd_T53 l0 x8_1).f3.f2), .int .i64 ((rd_T53 l0 x8_1).f3.f3), .int .i64 ((rd_T53 l0 x8_1).f3.f4), .int .u64 ((rd_T53 l0 x8_1).f3.f5.f0), .string ((rd_T53 l0 x8_1).f3.f5.f1), .int .i64 ((rd_T53 l0 x8_1).f4.f0), .int .i64 0, .slice none 0 0]) ?_ 11 _ rfl; (with_reducible repeat (first | refine blk_drewN ?_ _ | refine blk_drew ?_ | refine blk_alloc ?_ _)); refine blk_put (cs := #[.int .i64 ((rd_T53 l0 x8_1).f0), .int .i64 ((rd_T53 l0 x8_1).f1), .int .i64 ((rd_T53 l0 x8_1).f2), .int .i64 ((rd_T53 l0 x8_1).f3.f0), .int .u64 ((rd_T53 l0 x8_1).f3.f1), .int .i64 ((rd_T53 l0 x8_1).f3.f2), .int .i64 ((rd_T53 l0 x8_1).f3.f3), .int .i64 ((rd_T53 l0 x8_1).f3.f4), .int .u64 ((rd_T53 l0 x8_1).f3.f5.f0), .string ((rd_T53 l0 x8_1).f3.f5.f1), .int .i64 0, .int .i64 0, .slice none 0 0]) ?_ 10 _ rfl; (with_reducible repeat (first | refine blk_drewN ?_ _ | refine blk_drew ?_ | refine blk_alloc ?_ _)); refine blk_put (cs := #[.int .i64 ((rd_T53 l0 x8_1).f0), .int .i64 ((rd_T53 l0 x8_1).f1), .int .i64 ((rd_T53 l0 x8_1).f2), .int .i64 ((rd_T53 l0 x8_1).f3.f0), .int .u64 ((rd_T53 l0 x8_1).f3.f1), .int .i64 ((rd_T53 l0 x8_1).f3.f2), .int .i64 ((rd_T53 l0 x8_1).f3.f3), .int .i64 ((rd_T53 l0 x8_1).f3.f4), .int .u64 ((rd_T53 l0 x8_1).f3.f5.f0), .string (⟨#[]⟩ : ByteArray), .int .i64 0, .int .i64 0, .slice none 0 0]) ?_ 9 _ rfl; (with_reducible repeat (first | refine blk_drewN ?_ _ | refine blk_drew ?_ | refine blk_alloc ?_ _)); refine blk_put (cs := #[.int .i64 ((rd_T53 l0 x8_1).f0), .int .i64 ((rd_T53 l0 x8_1).f1), .int .i64 ((rd_T53 l0 x8_1).f2), .int .i64 ((rd_T53 l0 x8_1).f3.f0), .int .u64 ((rd_T53 l0 x8_1).f3.f1), .int .i64 ((rd_T53 l0 x8_1).f3.f2), .int .i64 ((rd_T53 l0 x8_1).f3.f3), .int .i64 ((rd_T53 l0 x8_1).f3.f4), .int .u64 0, .string (⟨#[]⟩ : ByteArray), .int .i64 0, .int .i64 0, .slice none 0 0]) ?_ 8 _ rfl; (with_reducible repeat (first | refine blk_drewN ?_ _ | refine blk_drew ?_ | refine blk_alloc ?_ _)); refine blk_put (cs := #[.int .i64 ((rd_T53 l0 x8_1).f0), .int .i64 ((rd_T53 l0 x8_1).f1), .int .i64 ((rd_T53 l0 x8_1).f2), .int .i64 ((rd_T53 l0 x8_1).f3.f0), .int .u64 ((rd_T53 l0 x8_1).f3.f1), .int .i64 ((rd_T53 l0 x8_1).f3.f2), .int .i64 ((rd_T53 l0 x8_1).f3.f3), .int .i64 0, .int .u64 0, .string (⟨#[]⟩ : ByteArray), .int .i64 0, .int .i64 0, .slice none 0 0]) ?_ 7 _ rfl; (with_reducible repeat (first | refine blk_drewN ?_ _ | refine blk_drew ?_ | refine blk_alloc ?_ _)); refine blk_put (cs := #[.int .i64 ((rd_T53 l0 x8_1).f0), .int .i64 ((rd_T53 l0 x8_1).f1), .int .i64 ((rd_T53 l0 x8_1).f2), .int .i64 ((rd_T53 l0 x8_1).f3.f0), .int .u64 ((rd_T53 l0 x8_1).f3.f1), .int .i64 ((rd_T53 l0 x8_1).f3.f2), .int .i64 0, .int .i64 0, .int .u64 0, .string (⟨#[]⟩ : ByteArray), .int .i64 0, .int .i64 0, .slice none 0 0]) ?_ 6 _ rfl; (with_reducible repeat (first | refine blk_drewN ?_ _ | refine blk_drew ?_ | refine blk_alloc ?_ _)); refine blk_put (cs := #[.int .i64 ((rd_T53 l0 x8_1).f0), .int .i64 ((rd_T53 l0 x8_1).f1), .int .i64 ((rd_T53 l0 x8_1).f2), .int .i64 ((rd_T53 l0 x8_1).f3.f0), .int .u64 ((rd_T53 l0 x8_1).f3.f1), .int .i64 0, .int .i64 0, .int .i64 0, .int .u64 0, .string (⟨#[]⟩ : ByteArray), .int .i64 0, .int .i64 0, .slice none 0 0]) ?_ 5 _ rfl; (with_reducible repeat (first | refine blk_drewN ?_ _ | refine blk_drew ?_ | refine blk_alloc ?_ _)); refine blk_put (cs := #[.int .i64 ((rd_T53 l0 x8_1).f0), .int .i64 ((rd_T53 l0 x8_1).f1), .int .i64 ((rd_T53 l0 x8_1).f2), .int .i64 ((rd_T53 l0 x8_1).f3.f0), .int .u64 0, .int .i64 0, .int .i64 0, .int .i64 0, .int .u64 0, .string (⟨#[]⟩ : ByteArray), .int .i64 0, .int .i64 0, .slice none 0 0]) ?_ 4 _ rfl; (with_reducible repeat (first | refine blk_drewN ?_ _ | refine blk_drew ?_ | refine blk_alloc ?_ _)); refine blk_put (cs := #[.int .i64 ((rd_T53 l0 x8_1).f0), .int .i64 ((rd_T53 l0 x8_1).f1), .int .i64 ((rd_T53 l0 x8_1).f2), .int .i64 0, .int .u64 0, .int .i64 0, .int .i64 0, .int .i64 0, .int .u64 0, .string (⟨#[]⟩ : ByteArray), .int .i64 0, .int .i64 0, .slice none 0 0]) ?_ 3 _ rfl; (with_reducible repeat (first | refine blk_drewN ?_ _ | refine blk_drew ?_ | refine blk_alloc ?_ _)); refine blk_put (cs := #[.int .i64 ((rd_T53 l0 x8_1).f0), .int .i64 ((rd_T53 l0 x8_1).f1), .int .i64 0, .int .i64 0, .int .u64 0, .int .i64 0, .int .i64 0, .int .i64 0, .int .u64 0, .string (⟨#[]⟩ : ByteArray), .int .i64 0, .int .i64 0, .slice none 0 0]) ?_ 2 _ rfl; (with_reducible repeat (first | refine blk_drewN ?_ _ | refine blk_drew ?_ | refine blk_alloc ?_ _)); refine blk_put (cs := #[.int .i64 ((rd_T53 l0 x8_1).f0), .int .i64 0, .int .i64 0, .int .i64 0, .int .u64 0, .int .i64 0, .int .i64 0, .int .i64 0, .int .u64 0, .string (⟨#[]⟩ : ByteArray), .int .i64 0, .int .i64 0, .slice none 0 0]) ?_ 1 _ rfl; (with_reducible repeat (first | refine blk_drewN ?_ _ | refine blk_drew ?_ | refine blk_alloc ?_ _)); refine blk_put (cs := #[.int .i64 0, .int .i64 0, .int .i64 0, .int .i64 0, .int .u64 0, .int .i64 0, .int .i64 0, .int .i64 0, .int .u64 0, .string (⟨#[]⟩ : ByteArray), .int .i64 0, .int .i64 0, .slice none 0 0]) ?_ 0 _ rfl; (with_reducible repeat (first | refine blk_drewN ?_ _ | refine blk_drew ?_ | refine blk_alloc ?_ _)); exact BK115.out) hb); have n1_ := Aside0.mk (below_step (by repeat (first | (with_reducible first | exact HB.out | apply below_alloc | apply pw_below_drewN | apply below_drew1 | refine below_set ?_ GE115.out) | exact HB.out)) hb); clear BK115; clear HB; have BK115 := n0_; have HB := n1_; clear n0_ n1_; (try clear hb); (try clear hb2); (try clear hk); (try clear hi)) | ((with_reducible refine gate_dst (N := 5) rfl ?_); refine box_event ?hg (N := 5) ?hd (cs := #[.int .i64 0, .int .i64 0]) (t := 58) ?hr ?_; (case hd => rfl); (case hg => rfl); (case hr => first | (go_simp; done) | (go_simp; rfl)); intro gb118 hg w10 hbox hb; have n0_ := Aside0.mk (blk_below (g := gb115) (o := .cells #[.int .i64 ((rd_T53 l0 x8_1).f0), .int .i64 ((rd_T53 l0 x8_1).f1), .int .i64 ((rd_T53 l0 x8_1).f2), .int .i64 ((rd_T53 l0 x8_1).f3.f0), .int .u64 ((rd_T53 l0 x8_1).f3.f1), .int .i64 ((rd_T53 l0 x8_1).f3.f2), .int .i64 ((rd_T53 l0 x8_1).f3.f3), .int .i64 ((rd_T53 l0 x8_1).f3.f4), .int .u64 ((rd_T53 l0 x8_1).f3.f5.f0), .string ((rd_T53 l0 x8_1).f3.f5.f1), .int .i64 ((rd_T53 l0 x8_1).f4.f0), .int .i64 ((rd_T53 l0 x8_1).f4.f1), .slice A114_12 ((rd_T53 l0 x8_1).f4.f2).length c114_12] 53 (0, 0)) (by (with_reducible repeat (first | refine blk_drewN ?_ _ | refine blk_drew ?_ | refine blk_alloc ?_ _)); exact BK115.out) hb); have n1_ := Aside0.mk (below_step (by repeat (first | (with_reducible first | exact HB.out | apply below_alloc | apply pw_below_drewN | apply below_drew1 | refine below_set ?_ GE115.out) | exact HB.out)) hb); have n2_ := Aside0.mk (hbox); have n3_ := Aside0.mk ((by rw [hg]; exact (below_size (by repeat (first | (with_reducible first | exact HB.out | apply below_alloc | apply pw_below_drewN | apply below_drew1 | refine below_set ?_ GE115.out) | exact HB.out))) : w.heap.size ≤ gb118)); have n4_ := Aside0.mk ((by rw [hg]; exact (below_size (by repeat (first | (with_reducible first | exact HB.out | apply below_alloc | apply pw_below_drewN | apply below_drew1 | refine below_set ?_ GE115.out) | exact HB.out))) : w.heap.size ≤ gb118)); have n5_ := Aside0.mk ((by rw [hg]; exact Nat.ne_of_lt (blk_lt (g := gb115) (o := .cells #[.int .i64 ((rd_T53 l0 x8_1).f0), .int .i64 ((rd_T53 l0 x8_1).f1), .int .i64 ((rd_T53 l0 x8_1).f2), .int .i64 ((rd_T53 l0 x8_1).f3.f0), .int .u64 ((rd_T53 l0 x8_1).f3.f1), .int .i64 ((rd_T53 l0 x8_1).f3.f2), .int .i64 ((rd_T53 l0 x8_1).f3.f3), .int .i64 ((rd_T53 l0 x8_1).f3.f4), .int .u64 ((rd_T53 l0 x8_1).f3.f5.f0), .string ((rd_T53 l0 x8_1).f3.f5.f1), .int .i64 ((rd_T53 l0 x8_1).f4.f0), .int .i64 ((rd_T53 l0 x8_1).f4.f1), .slice A114_12 ((rd_T53 l0 x8_1).f4.f2).length c114_12] 53 (0, 0)) (by (with_reducible repeat (first | refine blk_drewN ?_ _ | refine blk_drew ?_ | refine blk_alloc ?_ _)); exact BK115.out)) : gb115 ≠ gb118)); have n6_ := Aside0.mk ((by rw [hg]; exact Nat.ne_of_gt (blk_lt (g := gb115) (o := .cells #[.int .i64 ((rd_T53 l0 x8_1).f0), .int .i64 ((rd_T53 l0 x8_1).f1), .int .i64 ((rd_T53 l0 x8_1).f2), .int .i64 ((rd_T53 l0 x8_1).f3.f0), .int .u64 ((rd_T53 l0 x8_1).f3.f1), .int .i64 ((rd_T53 l0 x8_1).f3.f2), .int .i64 ((rd_T53 l0 x8_1).f3.f3), .int .i64 ((rd_T53 l0 x8_1).f3.f4), .int .u64 ((rd_T53 l0 x8_1).f3.f5.f0), .string ((rd_T53 l0 x8_1).f3.f5.f1), .int .i64 ((rd_T53 l0 x8_1).f4.f0), .int .i64 ((rd_T53 l0 x8_1).f4.f1), .slice A114_12 ((rd_T53 l0 x8_1).f4.f2).length c114_12] 53 (0, 0)) (by (with_reducible repeat (first | refine blk_drewN ?_ _ | refine blk_drew ?_ | refine blk_alloc ?_ _)); exact BK115.out)) : gb118 ≠ gb115)); clear BK115; clear HB; have BK115 := n0_; have HB := n1_; have BK118 := n2_; have GW118 := n3_; have GE118 := n4_; have NB115_118 := n5_; have NB118_115 := n6_; clear n0_ n1_ n2_ n3_ n4_ n5_ n6_; clear hb hbox hg; have hnb11 := NB118_115.out; have hnc11 := NB115_118.out; have hcz12_0 : w10.cell? ⟨gb118, 0, none⟩ = some (.int .i64 0) := (blk_cell BK118.out 0).trans rfl; have hcz12_1 : w10.cell? ⟨gb118, 1, none⟩ = some (.int .i64 0) := (blk_cell BK118.out 1).trans rfl; have hfz12_0 := blk_frozen BK118.out 0; have hfz12_1 := blk_frozen BK118.out 1)); go_upto_region 5 with (first | ((with_reducible refine gate_dst (N := 4) rfl ?_); refine box_event ?hg (N := 4) ?hd (cs := #[.int .i64 0, .int .i64 0, .int .i64 0, .int .i64 0, .int .u64 0, .int .i64 0, .int .i64 0, .int .i64 0, .int .u64 0, .string (⟨#[]⟩ : ByteArray), .int .i64 0, .int .i64 0, .slice none 0 0]) (t := 53) ?hr ?_; (case hd => rfl); (case hg => rfl); (case hr => first | (go_simp; done) | (go_simp; rfl)); intro gb115 hg w7 hbox hb; have n0_ := Aside0.mk (below_step (by repeat (first | (with_reducible first | exact HB.out | apply below_alloc | apply pw_below_drewN | apply below_drew1) | exact HB.out)) hb); have n1_ := Aside0.mk (hbox); have n2_ := Aside0.mk ((by rw [hg]; exact (below_size (by repeat (first | (with_reducible first | exact HB.out | apply below_alloc | apply pw_below_drewN | apply below_drew1) | exact HB.out))) : w.heap.size ≤ gb115)); have n3_ := Aside0.mk ((by rw [hg]; exact (below_size (by repeat (first | (with_reducible first | exact HB.out | apply below_alloc | apply pw_below_drewN | apply below_drew1) | exact HB.out))) : w.heap.size ≤ gb115)); clear HB; have HB := n0_; have BK115 := n1_; have GW115 := n2_; have GE115 := n3_; clear n0_ n1_ n2_ n3_; clear hb hbox hg; have hcz8_0 : w7.cell? ⟨gb115, 0, none⟩ = some (.int .i64 0) := (blk_cell BK115.out 0).trans rfl; have hcz8_1 : w7.cell? ⟨gb115, 1, none⟩ = some (.int .i64 0) := (blk_cell BK115.out 1).trans rfl; have hcz8_2 : w7.cell? ⟨gb115, 2, none⟩ = some (.int .i64 0) := (blk_cell BK115.out 2).trans rfl; have hcz8_3 : w7.cell? ⟨gb115, 3, none⟩ = some (.int .i64 0) := (blk_cell BK115.out 3).trans rfl; have hcz8_4 : w7.cell? ⟨gb115, 4, none⟩ = some (.int .u64 0) := (blk_cell BK115.out 4).trans rfl; have hcz8_5 : w7.cell? ⟨gb115, 5, none⟩ = some (.int .i64 0) := (blk_cell BK115.out 5).trans rfl; have hcz8_6 : w7.cell? ⟨gb115, 6, none⟩ = some (.int .i64 0) := (blk_cell BK115.out 6).trans rfl; have hcz8_7 : w7.cell? ⟨gb115, 7, none⟩ = some (.int .i64 0) := (blk_cell BK115.out 7).trans rfl; have hcz8_8 : w7.cell? ⟨gb115, 8, none⟩ = some (.int .u64 0) := (blk_cell BK115.out 8).trans rfl; have hcz8_9 : w7.cell? ⟨gb115, 9, none⟩ = some (.string (⟨#[]⟩ : ByteArray)) := (blk_cell BK115.out 9).trans rfl; have hcz8_10 : w7.cell? ⟨gb115, 10, none⟩ = some (.int .i64 0) := (blk_cell BK115.out 10).trans rfl; have hcz8_11 : w7.cell? ⟨gb115, 11, none⟩ = some (.int .i64 0) := (blk_cell BK115.out 11).trans rfl; have hcz8_12 : w7.cell? ⟨gb115, 12, none⟩ = some (.slice none 0 0) := (blk_cell BK115.out 12).trans rfl; have hfz8_0 := blk_frozen BK115.out 0; have hfz8_1 := blk_frozen BK115.out 1; have hfz8_2 := blk_frozen BK115.out 2; have hfz8_3 := blk_frozen BK115.out 3; have hfz8_4 := blk_frozen BK115.out 4; have hfz8_5 := blk_frozen BK115.out 5; have hfz8_6 := blk_frozen BK115.out 6; have hfz8_7 := blk_frozen BK115.out 7; have hfz8_8 := blk_frozen BK115.out 8; have hfz8_9 := blk_frozen BK115.out 9; have hfz8_10 := blk_frozen BK115.out 10; have hfz8_11 := blk_frozen BK115.out 11; have hfz8_12 := blk_frozen BK115.out 12) | (go_at_call 25; (with_reducible refine (downpourref22_count.calls k1 _ _ l0 x8_1 t116 t117 _ ?side1 ?side2 A5.out).mono ?_); (case side1 => exact Kd.C_below HR0.out (by repeat (first | (with_reducible first | exact HB.out | apply below_alloc | apply pw_below_drewN | apply below_drew1 | refine below_set ?_ GE115.out) | exact HB.out))); (case side2 => exact HC0.out); rintro e w9 ⟨rfl, hb⟩; have n0_ := Aside0.mk (blk_below (g := gb115) (o := .cells #[.int .i64 ((rd_T53 l0 x8_1).f0), .int .i64 ((rd_T53 l0 x8_1).f1), .int .i64 ((rd_T53 l0 x8_1).f2), .int .i64 ((rd_T53 l0 x8_1).f3.f0), .int .u64 ((rd_T53 l0 x8_1).f3.f1), .int .i64 ((rd_T53 l0 x8_1).f3.f2), .int .i64 ((rd_T53 l0 x8_1).f3.f3), .int .i64 ((rd_T53 l0 x8_1).f3.f4), .int .u64 ((rd_T53 l0 x8_1).f3.f5.f0), .string ((rd_T53 l0 x8_1).f3.f5.f1), .int .i64 ((rd_T53 l0 x8_1).f4.f0), .int .i64 ((rd_T53 l0 x8_1).f4.f1), .slice A114_12 ((rd_T53 l0 x8_1).f4.f2).length c114_12] 53 (0, 0)) (by (with_reducible repeat (first | refine blk_drewN ?_ _ | refine blk_drew ?_ | refine blk_alloc ?_ _)); refine blk_put (cs := #[.int .i64 ((rd_T53 l0 x8_1).f0), .int .i64 ((rd_T53 l0 x8_1).f1), .int .i64 ((rd_T53 l0 x8_1).f2), .int .i64 ((rd_T53 l0 x8_1).f3.f0), .int .u64 ((rd_T53 l0 x8_1).f3.f1), .int .i64 ((rd_T53 l0 x8_1).f3.f2), .int .i64 ((rd_T53 l0 x8_1).f3.f3), .int .i64 ((rd_T53 l0 x8_1).f3.f4), .int .u64 ((rd_T53 l0 x8_1).f3.f5.f0), .string ((rd_T53 l0 x8_1).f3.f5.f1), .int .i64 ((rd_T53 l0 x8_1).f4.f0), .int .i64 ((rd_T53 l0 x8_1).f4.f1), .slice none 0 0]) ?_ 12 _ rfl; (with_reducible repeat (first | refine blk_drewN ?_ _ | refine blk_drew ?_ | refine blk_alloc ?_ _)); refine blk_put (cs := #[.int .i64 ((rd_T53 l0 x8_1).f0), .int .i64 ((rd_T53 l0 x8_1).f1), .int .i64 ((rd_T53 l0 x8_1).f2), .int .i64 ((rd_T53 l0 x8_1).f3.f0), .int .u64 ((rd_T53 l0 x8_1).f3.f1), .int .i64 ((rd_T53 l0 x8_1).f3.f2), .int .i64 ((rd_T53 l0 x8_1).f3.f3), .int .i64 ((rd_T53 l0 x8_1).f3.f4), .int .u64 ((rd_T53 l0 x8_1).f3.f5.f0), .string ((rd_T53 l0 x8_1).f3.f5.f1), .int .i64 ((rd_T53 l0 x8_1).f4.f0), .int .i64 0, .slice none 0 0]) ?_ 11 _ rfl; (with_reducible repeat (first | refine blk_drewN ?_ _ | refine blk_drew ?_ | refine blk_alloc ?_ _)); refine blk_put (cs := #[.int .i64 ((rd_T53 l0 x8_1).f0), .int .i64 ((rd_T53 l0 x8_1).f1), .int .i64 ((rd_T53 l0 x8_1).f2), .int .i64 ((rd_T53 l0 x8_1).f3.f0), .int .u64 ((rd_T53 l0 x8_1).f3.f1), .int .i64 ((rd_T53 l0 x8_1).f3.f2), .int .i64 ((rd_T53 l0 x8_1).f3.f3), .int .i64 ((rd_T53 l0 x8_1).f3.f4), .int .u64 ((rd_T53 l0 x8_1).f3.f5.f0), .string ((rd_T53 l0 x8_1).f3.f5.f1), .int .i64 0, .int .i64 0, .slice none 0 0]) ?_ 10 _ rfl; (with_reducible repeat (first | refine blk_drewN ?_ _ | refine blk_drew ?_ | refine blk_alloc ?_ _)); refine blk_put (cs := #[.int .i64 ((rd_T53 l0 x8_1).f0), .int .i64 ((rd_T53 l0 x8_1).f1), .int .i64 ((rd_T53 l0 x8_1).f2), .int .i64 ((rd_T53 l0 x8_1).f3.f0), .int .u64 ((rd_T53 l0 x8_1).f3.f1), .int .i64 ((rd_T53 l0 x8_1).f3.f2), .int .i64 ((rd_T53 l0 x8_1).f3.f3), .int .i64 ((rd_T53 l0 x8_1).f3.f4), .int .u64 ((rd_T53 l0 x8_1).f3.f5.f0), .string (⟨#[]⟩ : ByteArray), .int .i64 0, .int .i64 0, .slice none 0 0]) ?_ 9 _ rfl; (with_reducible repeat (first | refine blk_drewN ?_ _ | refine blk_drew ?_ | refine blk_alloc ?_ _)); refine blk_put (cs := #[.int .i64 ((rd_T53 l0 x8_1).f0), .int .i64 ((rd_T53 l0 x8_1).f1), .int .i64 ((rd_T53 l0 x8_1).f2), .int .i64 ((rd_T53 l0 x8_1).f3.f0), .int .u64 ((rd_T53 l0 x8_1).f3.f1), .int .i64 ((rd_T53 l0 x8_1).f3.f2), .int .i64 ((rd_T53 l0 x8_1).f3.f3), .int .i64 ((rd_T53 l0 x8_1).f3.f4), .int .u64 0, .string (⟨#[]⟩ : ByteArray), .int .i64 0, .int .i64 0, .slice none 0 0]) ?_ 8 _ rfl; (with_reducible repeat (first | refine blk_drewN ?_ _ | refine blk_drew ?_ | refine blk_alloc ?_ _)); refine blk_put (cs := #[.int .i64 ((rd_T53 l0 x8_1).f0), .int .i64 ((rd_T53 l0 x8_1).f1), .int .i64 ((rd_T53 l0 x8_1).f2), .int .i64 ((rd_T53 l0 x8_1).f3.f0), .int .u64 ((rd_T53 l0 x8_1).f3.f1), .int .i64 ((rd_T53 l0 x8_1).f3.f2), .int .i64 ((rd_T53 l0 x8_1).f3.f3), .int .i64 0, .int .u64 0, .string (⟨#[]⟩ : ByteArray), .int .i64 0, .int .i64 0, .slice none 0 0]) ?_ 7 _ rfl; (with_reducible repeat (first | refine blk_drewN ?_ _ | refine blk_drew ?_ | refine blk_alloc ?_ _)); refine blk_put (cs := #[.int .i64 ((rd_T53 l0 x8_1).f0), .int .i64 ((rd_T53 l0 x8_1).f1), .int .i64 ((rd_T53 l0 x8_1).f2), .int .i64 ((rd_T53 l0 x8_1).f3.f0), .int .u64 ((rd_T53 l0 x8_1).f3.f1), .int .i64 ((rd_T53 l0 x8_1).f3.f2), .int .i64 0, .int .i64 0, .int .u64 0, .string (⟨#[]⟩ : ByteArray), .int .i64 0, .int .i64 0, .slice none 0 0]) ?_ 6 _ rfl; (with_reducible repeat (first | refine blk_drewN ?_ _ | refine blk_drew ?_ | refine blk_alloc ?_ _)); refine blk_put (cs := #[.int .i64 ((rd_T53 l0 x8_1).f0), .int .i64 ((rd_T53 l0 x8_1).f1), .int .i64 ((rd_T53 l0 x8_1).f2), .int .i64 ((rd_T53 l0 x8_1).f3.f0), .int .u64 ((rd_T53 l0 x8_1).f3.f1), .int .i64 0, .int .i64 0, .int .i64 0, .int .u64 0, .string (⟨#[]⟩ : ByteArray), .int .i64 0, .int .i64 0, .slice none 0 0]) ?_ 5 _ rfl; (with_reducible repeat (first | refine blk_drewN ?_ _ | refine blk_drew ?_ | refine blk_alloc ?_ _)); refine blk_put (cs := #[.int .i64 ((rd_T53 l0 x8_1).f0), .int .i64 ((rd_T53 l0 x8_1).f1), .int .i64 ((rd_T53 l0 x8_1).f2), .int .i64 ((rd_T53 l0 x8_1).f3.f0), .int .u64 0, .int .i64 0, .int .i64 0, .int .i64 0, .int .u64 0, .string (⟨#[]⟩ : ByteArray), .int .i64 0, .int .i64 0, .slice none 0 0]) ?_ 4 _ rfl; (with_reducible repeat (first | refine blk_drewN ?_ _ | refine blk_drew ?_ | refine blk_alloc ?_ _)); refine blk_put (cs := #[.int .i64 ((rd_T53 l0 x8_1).f0), .int .i64 ((rd_T53 l0 x8_1).f1), .int .i64 ((rd_T53 l0 x8_1).f2), .int .i64 0, .int .u64 0, .int .i64 0, .int .i64 0, .int .i64 0, .int .u64 0, .string (⟨#[]⟩ : ByteArray), .int .i64 0, .int .i64 0, .slice none 0 0]) ?_ 3 _ rfl; (with_reducible repeat (first | refine blk_drewN ?_ _ | refine blk_drew ?_ | refine blk_alloc ?_ _)); refine blk_put (cs := #[.int .i64 ((rd_T53 l0 x8_1).f0), .int .i64 ((rd_T53 l0 x8_1).f1), .int .i64 0, .int .i64 0, .int .u64 0, .int .i64 0, .int .i64 0, .int .i64 0, .int .u64 0, .string (⟨#[]⟩ : ByteArray), .int .i64 0, .int .i64 0, .slice none 0 0]) ?_ 2 _ rfl; (with_reducible repeat (first | refine blk_drewN ?_ _ | refine blk_drew ?_ | refine blk_alloc ?_ _)); refine blk_put (cs := #[.int .i64 ((rd_T53 l0 x8_1).f0), .int .i64 0, .int .i64 0, .int .i64 0, .int .u64 0, .int .i64 0, .int .i64 0, .int .i64 0, .int .u64 0, .string (⟨#[]⟩ : ByteArray), .int .i64 0, .int .i64 0, .slice none 0 0]) ?_ 1 _ rfl; (with_reducible repeat (first | refine blk_drewN ?_ _ | refine blk_drew ?_ | refine blk_alloc ?_ _)); refine blk_put (cs := #[.int .i64 0, .int .i64 0, .int .i64 0, .int .i64 0, .int .u64 0, .int .i64 0, .int .i64 0, .int .i64 0, .int .u64 0, .string (⟨#[]⟩ : ByteArray), .int .i64 0, .int .i64 0, .slice none 0 0]) ?_ 0 _ rfl; (with_reducible repeat (first | refine blk_drewN ?_ _ | refine blk_drew ?_ | refine blk_alloc ?_ _)); exact BK115.out) hb); have n1_ := Aside0.mk (below_step (by repeat (first | (with_reducible first | exact HB.out | apply below_alloc | apply pw_below_drewN | apply below_drew1 | refine below_set ?_ GE115.out) | exact HB.out)) hb); clear BK115; clear HB; have BK115 := n0_; have HB := n1_; clear n0_ n1_; (try clear hb); (try clear hb2); (try clear hk); (try clear hi)) | ((with_reducible refine gate_dst (N := 5) rfl ?_); refine box_event ?hg (N := 5) ?hd (cs := #[.int .i64 0, .int .i64 0]) (t := 58) ?hr ?_; (case hd => rfl); (case hg => rfl); (case hr => first | (go_simp; done) | (go_simp; rfl)); intro gb118 hg w10 hbox hb; have n0_ := Aside0.mk (blk_below (g := gb115) (o := .cells #[.int .i64 ((rd_T53 l0 x8_1).f0), .int .i64 ((rd_T53 l0 x8_1).f1), .int .i64 ((rd_T53 l0 x8_1).f2), .int .i64 ((rd_T53 l0 x8_1).f3.f0), .int .u64 ((rd_T53 l0 x8_1).f3.f1), .int .i64 ((rd_T53 l0 x8_1).f3.f2), .int .i64 ((rd_T53 l0 x8_1).f3.f3), .int .i64 ((rd_T53 l0 x8_1).f3.f4), .int .u64 ((rd_T53 l0 x8_1).f3.f5.f0), .string ((rd_T53 l0 x8_1).f3.f5.f1), .int .i64 ((rd_T53 l0 x8_1).f4.f0), .int .i64 ((rd_T53 l0 x8_1).f4.f1), .slice A114_12 ((rd_T53 l0 x8_1).f4.f2).length c114_12] 53 (0, 0)) (by (with_reducible repeat (first | refine blk_drewN ?_ _ | refine blk_drew ?_ | refine blk_alloc ?_ _)); exact BK115.out) hb); have n1_ := Aside0.mk (below_step (by repeat (first | (with_reducible first | exact HB.out | apply below_alloc | apply pw_below_drewN | apply below_drew1 | refine below_set ?_ GE115.out) | exact HB.out)) hb); have n2_ := Aside0.mk (hbox); have n3_ := Aside0.mk ((by rw [hg]; exact (below_size (by repeat (first | (with_reducible first | exact HB.out | apply below_alloc | apply pw_below_drewN | apply below_drew1 | refine below_set ?_ GE115.out) | exact HB.out))) : w.heap.size ≤ gb118)); have n4_ := Aside0.mk ((by rw [hg]; exact (below_size (by repeat (first | (with_reducible first | exact HB.out | apply below_alloc | apply pw_below_drewN | apply below_drew1 | refine below_set ?_ GE115.out) | exact HB.out))) : w.heap.size ≤ gb118)); have n5_ := Aside0.mk ((by rw [hg]; exact Nat.ne_of_lt (blk_lt (g := gb115) (o := .cells #[.int .i64 ((rd_T53 l0 x8_1).f0), .int .i64 ((rd_T53 l0 x8_1).f1), .int .i64 ((rd_T53 l0 x8_1).f2), .int .i64 ((rd_T53 l0 x8_1).f3.f0), .int .u64 ((rd_T53 l0 x8_1).f3.f1), .int .i64 ((rd_T53 l0 x8_1).f3.f2), .int .i64 ((rd_T53 l0 x8_1).f3.f3), .int .i64 ((rd_T53 l0 x8_1).f3.f4), .int .u64 ((rd_T53 l0 x8_1).f3.f5.f0), .string ((rd_T53 l0 x8_1).f3.f5.f1), .int .i64 ((rd_T53 l0 x8_1).f4.f0), .int .i64 ((rd_T53 l0 x8_1).f4.f1), .slice A114_12 ((rd_T53 l0 x8_1).f4.f2).length c114_12] 53 (0, 0)) (by (with_reducible repeat (first | refine blk_drewN ?_ _ | refine blk_drew ?_ | refine blk_alloc ?_ _)); exact BK115.out)) : gb115 ≠ gb118)); have n6_ := Aside0.mk ((by rw [hg]; exact Nat.ne_of_gt (blk_lt (g := gb115) (o := .cells #[.int .i64 ((rd_T53 l0 x8_1).f0), .int .i64 ((rd_T53 l0 x8_1).f1), .int .i64 ((rd_T53 l0 x8_1).f2), .int .i64 ((rd_T53 l0 x8_1).f3.f0), .int .u64 ((rd_T53 l0 x8_1).f3.f1), .int .i64 ((rd_T53 l0 x8_1).f3.f2), .int .i64 ((rd_T53 l0 x8_1).f3.f3), .int .i64 ((rd_T53 l0 x8_1).f3.f4), .int .u64 ((rd_T53 l0 x8_1).f3.f5.f0), .string ((rd_T53 l0 x8_1).f3.f5.f1), .int .i64 ((rd_T53 l0 x8_1).f4.f0), .int .i64 ((rd_T53 l0 x8_1).f4.f1), .slice A114_12 ((rd_T53 l0 x8_1).f4.f2).length c114_12] 53 (0, 0)) (by (with_reducible repeat (first | refine blk_drewN ?_ _ | refine blk_drew ?_ | refine blk_alloc ?_ _)); exact BK115.out)) : gb118 ≠ gb115)); clear BK115; clear HB; have BK115 := n0_; have HB := n1_; have BK118 := n2_; have GW118 := n3_; have GE118 := n4_; have NB115_118 := n5_; have NB118_115 := n6_; clear n0_ n1_ n2_ n3_ n4_ n5_ n6_; clear hb hbox hg; have hnb11 := NB118_115.out; have hnc11 := NB115_118.out; have hcz12_0 : w10.cell? ⟨gb118, 0, none⟩ = some (.int .i64 0) := (blk_cell BK118.out 0).trans rfl; have hcz12_1 : w10.cell? ⟨gb118, 1, none⟩ = some (.int .i64 0) := (blk_cell BK118.out 1).trans rfl; have hfz12_0 := blk_frozen BK118.out 0; have hfz12_1 := blk_frozen BK118.out 1)))
            (try simp only [Act.put, List.setIfInBounds_toArray, List.set_cons_zero, List.set_cons_succ])
            go_cut [39] (fun v39 wc => ∃ (kq : Nat) (x39_5 : Bool), v39 = .bool x39_5 ∧ Aside0 (downpourref22_Right.j1 kq l0 l0 (l0.length : Int) x8_1 x39_5 ((rd_T53 l0 x8_1).f0) ((rd_T53 l0 x8_1).f1) ((rd_T53 l0 x8_1).f2) ((rd_T53 l0 x8_1).f3.f0) ((rd_T53 l0 x8_1).f3.f1) ((rd_T53 l0 x8_1).f3.f2) ((rd_T53 l0 x8_1).f3.f3) ((rd_T53 l0 x8_1).f3.f4) ((rd_T53 l0 x8_1).f3.f5.f0) ((rd_T53 l0 x8_1).f3.f5.f1) ((rd_T53 l0 x8_1).f4.f0) ((rd_T53 l0 x8_1).f4.f1) ((rd_T53 l0 x8_1).f4.f2) t116 t117 = some r) ∧ Aside0 (kq ≤ k1) ∧ Aside0 (wc.heap[gb115]? = some (.cells #[.int .i64 ((rd_T53 l0 x8_1).f0), .int .i64 ((rd_T53 l0 x8_1).f1), .int .i64 ((rd_T53 l0 x8_1).f2), .int .i64 ((rd_T53 l0 x8_1).f3.f0), .int .u64 ((rd_T53 l0 x8_1).f3.f1), .int .i64 ((rd_T53 l0 x8_1).f3.f2), .int .i64 ((rd_T53 l0 x8_1).f3.f3), .int .i64 ((rd_T53 l0 x8_1).f3.f4), .int .u64 ((rd_T53 l0 x8_1).f3.f5.f0), .string ((rd_T53 l0 x8_1).f3.f5.f1), .int .i64 ((rd_T53 l0 x8_1).f4.f0), .int .i64 ((rd_T53 l0 x8_1).f4.f1), (.slice A114_12 ((rd_T53 l0 x8_1).f4.f2).length c114_12)] 53 (0, 0))) ∧ Aside0 (wc.heap[gb118]? = some (.cells #[.int .i64 t116, .int .i64 t117] 58 (0, 0))) ∧ Aside0 (Below w.heap.size w wc))
            case first =>
              have H := HC6.out
              clear HC6
              by_cases c13 : ((rd_T53 l0 x8_1).f0) < 0
              · rw [if_pos c13] at H
                have c13b0 : decide (((rd_T53 l0 x8_1).f0) < 0) = true := decide_eq_true c13
                clear c13
                (first | rw [c13b0] | (simp only [i64_w, i32_w]; rw [c13b0]) | skip)
                have H' := Aside0.mk H
                clear H
                have hnb14 := NB115_118.out
                have hnc14 := NB118_115.out
                have hcz15_0 : w10.cell? ⟨gb115, 0, none⟩ = some (.int .i64 ((rd_T53 l0 x8_1).f0)) := (blk_cell BK115.out 0).trans rfl
                have hcz15_1 : w10.cell? ⟨gb115, 1, none⟩ = some (.int .i64 ((rd_T53 l0 x8_1).f1)) := (blk_cell BK115.out 1).trans rfl
                have hcz15_2 : w10.cell? ⟨gb115, 2, none⟩ = some (.int .i64 ((rd_T53 l0 x8_1).f2)) := (blk_cell BK115.out 2).trans rfl
                have hcz15_3 : w10.cell? ⟨gb115, 3, none⟩ = some (.int .i64 ((rd_T53 l0 x8_1).f3.f0)) := (blk_cell BK115.out 3).trans rfl
                have hcz15_4 : w10.cell? ⟨gb115, 4, none⟩ = some (.int .u64 ((rd_T53 l0 x8_1).f3.f1)) := (blk_cell BK115.out 4).trans rfl
                have hcz15_5 : w10.cell? ⟨gb115, 5, none⟩ = some (.int .i64 ((rd_T53 l0 x8_1).f3.f2)) := (blk_cell BK115.out 5).trans rfl
                have hcz15_6 : w10.cell? ⟨gb115, 6, none⟩ = some (.int .i64 ((rd_T53 l0 x8_1).f3.f3)) := (blk_cell BK115.out 6).trans rfl
                have hcz15_7 : w10.cell? ⟨gb115, 7, none⟩ = some (.int .i64 ((rd_T53 l0 x8_1).f3.f4)) := (blk_cell BK115.out 7).trans rfl
                have hcz15_8 : w10.cell? ⟨gb115, 8, none⟩ = some (.int .u64 ((rd_T53 l0 x8_1).f3.f5.f0)) := (blk_cell BK115.out 8).trans rfl
                have hcz15_9 : w10.cell? ⟨gb115, 9, none⟩ = some (.string ((rd_T53 l0 x8_1).f3.f5.f1)) := (blk_cell BK115.out 9).trans rfl
                have hcz15_10 : w10.cell? ⟨gb115, 10, none⟩ = some (.int .i64 ((rd_T53 l0 x8_1).f4.f0)) := (blk_cell BK115.out 10).trans rfl
                have hcz15_11 : w10.cell? ⟨gb115, 11, none⟩ = some (.int .i64 ((rd_T53 l0 x8_1).f4.f1)) := (blk_cell BK115.out 11).trans rfl
                have hcz15_12 : w10.cell? ⟨gb115, 12, none⟩ = some (.slice A114_12 ((rd_T53 l0 x8_1).f4.f2).length c114_12) := (blk_cell BK115.out 12).trans rfl
                have hfz15_0 := blk_frozen BK115.out 0
                have hfz15_1 := blk_frozen BK115.out 1
                have hfz15_2 := blk_frozen BK115.out 2
                have hfz15_3 := blk_frozen BK115.out 3
                have hfz15_4 := blk_frozen BK115.out 4
                have hfz15_5 := blk_frozen BK115.out 5
                have hfz15_6 := blk_frozen BK115.out 6
                have hfz15_7 := blk_frozen BK115.out 7
                have hfz15_8 := blk_frozen BK115.out 8
                have hfz15_9 := blk_frozen BK115.out 9
                have hfz15_10 := blk_frozen BK115.out 10
                have hfz15_11 := blk_frozen BK115.out 11
                have hfz15_12 := blk_frozen BK115.out 12
                go_wp2
                repeat (go_quiet (fail); try go_wp2)
                go_meet
                case rel => exact ⟨_, (true), (by first | rfl | (simp; done) | (simp [*]; done) | (rw [Int.tdiv_eq_ediv_of_nonneg]; decide)), H', ⟨by have := HK1.out; first | omega | exact Nat.le_refl _⟩, ⟨by (with_reducible repeat (first | refine blk_drewN ?_ _ | refine blk_drew ?_ | refine blk_alloc ?_ _)); refine blk_far ?_ NB115_118.out _; (with_reducible repeat (first | refine blk_drewN ?_ _ | refine blk_drew ?_ | refine blk_alloc ?_ _)); refine blk_far ?_ NB115_118.out _; (with_reducible repeat (first | refine blk_drewN ?_ _ | refine blk_drew ?_ | refine blk_alloc ?_ _)); exact BK115.out⟩, ⟨by (with_reducible repeat (first | refine blk_drewN ?_ _ | refine blk_drew ?_ | refine blk_alloc ?_ _)); refine blk_put (cs := #[.int .i64 t116, .int .i64 0]) ?_ 1 _ rfl; (with_reducible repeat (first | refine blk_drewN ?_ _ | refine blk_drew ?_ | refine blk_alloc ?_ _)); refine blk_put (cs := #[.int .i64 0, .int .i64 0]) ?_ 0 _ rfl; (with_reducible repeat (first | refine blk_drewN ?_ _ | refine blk_drew ?_ | refine blk_alloc ?_ _)); exact BK118.out⟩, ⟨by repeat (first | (with_reducible first | exact HB.out | apply below_alloc | apply pw_below_drewN | apply below_drew1 | refine below_set ?_ GE115.out | refine below_set ?_ GE118.out) | exact HB.out)⟩⟩
              · rw [if_neg c13] at H
                have c13b0 : decide (((rd_T53 l0 x8_1).f0) < 0) = false := decide_eq_false c13
                clear c13
                (first | rw [c13b0] | (simp only [i64_w, i32_w]; rw [c13b0]) | skip)
                by_cases c16 : ((rd_T53 l0 x8_1).f0) > 3
                · rw [if_pos c16] at H
                  have c16b0 : decide (3 < ((rd_T53 l0 x8_1).f0)) = true := decide_eq_true c16
                  clear c16
                  have H' := Aside0.mk H
                  clear H
                  have hnb17 := NB115_118.out
                  have hnc17 := NB118_115.out
                  have hcz18_0 : w10.cell? ⟨gb115, 0, none⟩ = some (.int .i64 ((rd_T53 l0 x8_1).f0)) := (blk_cell BK115.out 0).trans rfl
                  have hcz18_1 : w10.cell? ⟨gb115, 1, none⟩ = some (.int .i64 ((rd_T53 l0 x8_1).f1)) := (blk_cell BK115.out 1).trans rfl
                  have hcz18_2 : w10.cell? ⟨gb115, 2, none⟩ = some (.int .i64 ((rd_T53 l0 x8_1).f2)) := (blk_cell BK115.out 2).trans rfl
                  have hcz18_3 : w10.cell? ⟨gb115, 3, none⟩ = some (.int .i64 ((rd_T53 l0 x8_1).f3.f0)) := (blk_cell BK115.out 3).trans rfl
                  have hcz18_4 : w10.cell? ⟨gb115, 4, none⟩ = some (.int .u64 ((rd_T53 l0 x8_1).f3.f1)) := (blk_cell BK115.out 4).trans rfl
                  have hcz18_5 : w10.cell? ⟨gb115, 5, none⟩ = some (.int .i64 ((rd_T53 l0 x8_1).f3.f2)) := (blk_cell BK115.out 5).trans rfl
                  have hcz18_6 : w10.cell? ⟨gb115, 6, none⟩ = some (.int .i64 ((rd_T53 l0 x8_1).f3.f3)) := (blk_cell BK115.out 6).trans rfl
                  have hcz18_7 : w10.cell? ⟨gb115, 7, none⟩ = some (.int .i64 ((rd_T53 l0 x8_1).f3.f4)) := (blk_cell BK115.out 7).trans rfl
                  have hcz18_8 : w10.cell? ⟨gb115, 8, none⟩ = some (.int .u64 ((rd_T53 l0 x8_1).f3.f5.f0)) := (blk_cell BK115.out 8).trans rfl
                  have hcz18_9 : w10.cell? ⟨gb115, 9, none⟩ = some (.string ((rd_T53 l0 x8_1).f3.f5.f1)) := (blk_cell BK115.out 9).trans rfl
                  have hcz18_10 : w10.cell? ⟨gb115, 10, none⟩ = some (.int .i64 ((rd_T53 l0 x8_1).f4.f0)) := (blk_cell BK115.out 10).trans rfl
                  have hcz18_11 : w10.cell? ⟨gb115, 11, none⟩ = some (.int .i64 ((rd_T53 l0 x8_1).f4.f1)) := (blk_cell BK115.out 11).trans rfl
                  have hcz18_12 : w10.cell? ⟨gb115, 12, none⟩ = some (.slice A114_12 ((rd_T53 l0 x8_1).f4.f2).length c114_12) := (blk_cell BK115.out 12).trans rfl
                  have hfz18_0 := blk_frozen BK115.out 0
                  have hfz18_1 := blk_frozen BK115.out 1
                  have hfz18_2 := blk_frozen BK115.out 2
                  have hfz18_3 := blk_frozen BK115.out 3
                  have hfz18_4 := blk_frozen BK115.out 4
                  have hfz18_5 := blk_frozen BK115.out 5
                  have hfz18_6 := blk_frozen BK115.out 6
                  have hfz18_7 := blk_frozen BK115.out 7
                  have hfz18_8 := blk_frozen BK115.out 8
                  have hfz18_9 := blk_frozen BK115.out 9
                  have hfz18_10 := blk_frozen BK115.out 10
                  have hfz18_11 := blk_frozen BK115.out 11
                  have hfz18_12 := blk_frozen BK115.out 12
                  go_wp2
                  repeat (go_quiet (fail); try go_wp2)
                  go_meet
                  case rel => exact ⟨_, (true), (by first | rfl | (simp; done) | (simp [*]; done) | (rw [Int.tdiv_eq_ediv_of_nonneg]; decide)), H', ⟨by have := HK1.out; first | omega | exact Nat.le_refl _⟩, ⟨by (with_reducible repeat (first | refine blk_drewN ?_ _ | refine blk_drew ?_ | refine blk_alloc ?_ _)); refine blk_far ?_ NB115_118.out _; (with_reducible repeat (first | refine blk_drewN ?_ _ | refine blk_drew ?_ | refine blk_alloc ?_ _)); refine blk_far ?_ NB115_118.out _; (with_reducible repeat (first | refine blk_drewN ?_ _ | refine blk_drew ?_ | refine blk_alloc ?_ _)); exact BK115.out⟩, ⟨by (with_reducible repeat (first | refine blk_drewN ?_ _ | refine blk_drew ?_ | refine blk_alloc ?_ _)); refine blk_put (cs := #[.int .i64 t116, .int .i64 0]) ?_ 1 _ rfl; (with_reducible repeat (first | refine blk_drewN ?_ _ | refine blk_drew ?_ | refine blk_alloc ?_ _)); refine blk_put (cs := #[.int .i64 0, .int .i64 0]) ?_ 0 _ rfl; (with_reducible repeat (first | refine blk_drewN ?_ _ | refine blk_drew ?_ | refine blk_alloc ?_ _)); exact BK118.out⟩, ⟨by repeat (first | (with_reducible first | exact HB.out | apply below_alloc | apply pw_below_drewN | apply below_drew1 | refine below_set ?_ GE115.out | refine below_set ?_ GE118.out) | exact HB.out)⟩⟩
                · rw [if_neg c16] at H
                  have c16b0 : decide (3 < ((rd_T53 l0 x8_1).f0)) = false := decide_eq_false c16
                  clear c16
                  by_cases c19 : ((rd_T53 l0 x8_1).f1) = (Int.tmod t116 2)
                  · rw [if_pos c19] at H
                    have c19b0 : (((rd_T53 l0 x8_1).f1) == (Int.tmod t116 2)) = true := beq_iff_eq.mpr c19
                    have c19b1 : (((rd_T53 l0 x8_1).f1) != (Int.tmod t116 2)) = false := bne_eq_false_iff_eq.mpr c19
                    clear c19
                    have H' := Aside0.mk H
                    clear H
                    have hnb20 := NB115_118.out
                    have hnc20 := NB118_115.out
                    have hcz21_0 : w10.cell? ⟨gb115, 0, none⟩ = some (.int .i64 ((rd_T53 l0 x8_1).f0)) := (blk_cell BK115.out 0).trans rfl
                    have hcz21_1 : w10.cell? ⟨gb115, 1, none⟩ = some (.int .i64 ((rd_T53 l0 x8_1).f1)) := (blk_cell BK115.out 1).trans rfl
                    have hcz21_2 : w10.cell? ⟨gb115, 2, none⟩ = some (.int .i64 ((rd_T53 l0 x8_1).f2)) := (blk_cell BK115.out 2).trans rfl
                    have hcz21_3 : w10.cell? ⟨gb115, 3, none⟩ = some (.int .i64 ((rd_T53 l0 x8_1).f3.f0)) := (blk_cell BK115.out 3).trans rfl
                    have hcz21_4 : w10.cell? ⟨gb115, 4, none⟩ = some (.int .u64 ((rd_T53 l0 x8_1).f3.f1)) := (blk_cell BK115.out 4).trans rfl
                    have hcz21_5 : w10.cell? ⟨gb115, 5, none⟩ = some (.int .i64 ((rd_T53 l0 x8_1).f3.f2)) := (blk_cell BK115.out 5).trans rfl
                    have hcz21_6 : w10.cell? ⟨gb115, 6, none⟩ = some (.int .i64 ((rd_T53 l0 x8_1).f3.f3)) := (blk_cell BK115.out 6).trans rfl
                    have hcz21_7 : w10.cell? ⟨gb115, 7, none⟩ = some (.int .i64 ((rd_T53 l0 x8_1).f3.f4)) := (blk_cell BK115.out 7).trans rfl
                    have hcz21_8 : w10.cell? ⟨gb115, 8, none⟩ = some (.int .u64 ((rd_T53 l0 x8_1).f3.f5.f0)) := (blk_cell BK115.out 8).trans rfl
                    have hcz21_9 : w10.cell? ⟨gb115, 9, none⟩ = some (.string ((rd_T53 l0 x8_1).f3.f5.f1)) := (blk_cell BK115.out 9).trans rfl
                    have hcz21_10 : w10.cell? ⟨gb115, 10, none⟩ = some (.int .i64 ((rd_T53 l0 x8_1).f4.f0)) := (blk_cell BK115.out 10).trans rfl
                    have hcz21_11 : w10.cell? ⟨gb115, 11, none⟩ = some (.int .i64 ((rd_T53 l0 x8_1).f4.f1)) := (blk_cell BK115.out 11).trans rfl
                    have hcz21_12 : w10.cell? ⟨gb115, 12, none⟩ = some (.slice A114_12 ((rd_T53 l0 x8_1).f4.f2).length c114_12) := (blk_cell BK115.out 12).trans rfl
                    have hfz21_0 := blk_frozen BK115.out 0
                    have hfz21_1 := blk_frozen BK115.out 1
                    have hfz21_2 := blk_frozen BK115.out 2
                    have hfz21_3 := blk_frozen BK115.out 3
                    have hfz21_4 := blk_frozen BK115.out 4
                    have hfz21_5 := blk_frozen BK115.out 5
                    have hfz21_6 := blk_frozen BK115.out 6
                    have hfz21_7 := blk_frozen BK115.out 7
                    have hfz21_8 := blk_frozen BK115.out 8
                    have hfz21_9 := blk_frozen BK115.out 9
                    have hfz21_10 := blk_frozen BK115.out 10
                    have hfz21_11 := blk_frozen BK115.out 11
                    have hfz21_12 := blk_frozen BK115.out 12
                    have hcz22_0 : w10.cell? ⟨gb118, 0, none⟩ = some (.int .i64 0) := (blk_cell BK118.out 0).trans rfl
                    have hcz22_1 : w10.cell? ⟨gb118, 1, none⟩ = some (.int .i64 0) := (blk_cell BK118.out 1).trans rfl
                    have hfz22_0 := blk_frozen BK118.out 0
                    have hfz22_1 := blk_frozen BK118.out 1
                    go_wp2
                    repeat (go_quiet (fail); try go_wp2)
                    go_meet
                    case rel => exact ⟨_, ((((rd_T53 l0 x8_1).f2) != (wrap64 (Int.tdiv t116 2)))), (by first | rfl | (simp; done) | (simp [*]; done) | (rw [Int.tdiv_eq_ediv_of_nonneg]; decide)), H', ⟨by have := HK1.out; first | omega | exact Nat.le_refl _⟩, ⟨by (with_reducible repeat (first | refine blk_drewN ?_ _ | refine blk_drew ?_ | refine blk_alloc ?_ _)); refine blk_far ?_ NB115_118.out _; (with_reducible repeat (first | refine blk_drewN ?_ _ | refine blk_drew ?_ | refine blk_alloc ?_ _)); refine blk_far ?_ NB115_118.out _; (with_reducible repeat (first | refine blk_drewN ?_ _ | refine blk_drew ?_ | refine blk_alloc ?_ _)); exact BK115.out⟩, ⟨by (with_reducible repeat (first | refine blk_drewN ?_ _ | refine blk_drew ?_ | refine blk_alloc ?_ _)); refine blk_put (cs := #[.int .i64 t116, .int .i64 0]) ?_ 1 _ rfl; (with_reducible repeat (first | refine blk_drewN ?_ _ | refine blk_drew ?_ | refine blk_alloc ?_ _)); refine blk_put (cs := #[.int .i64 0, .int .i64 0]) ?_ 0 _ rfl; (with_reducible repeat (first | refine blk_drewN ?_ _ | refine blk_drew ?_ | refine blk_alloc ?_ _)); exact BK118.out⟩, ⟨by repeat (first | (with_reducible first | exact HB.out | apply below_alloc | apply pw_below_drewN | apply below_drew1 | refine below_set ?_ GE115.out | refine below_set ?_ GE118.out) | exact HB.out)⟩⟩
                  · rw [if_neg c19] at H
                    have c19b0 : (((rd_T53 l0 x8_1).f1) == (Int.tmod t116 2)) = false := beq_eq_false_iff_ne.mpr c19
                    have c19b1 : (((rd_T53 l0 x8_1).f1) != (Int.tmod t116 2)) = true := bne_iff_ne.mpr c19
                    have H' := Aside0.mk H
                    clear H
                    have hnb23 := NB115_118.out
                    have hnc23 := NB118_115.out
                    have hcz24_0 : w10.cell? ⟨gb115, 0, none⟩ = some (.int .i64 ((rd_T53 l0 x8_1).f0)) := (blk_cell BK115.out 0).trans rfl
                    have hcz24_1 : w10.cell? ⟨gb115, 1, none⟩ = some (.int .i64 ((rd_T53 l0 x8_1).f1)) := (blk_cell BK115.out 1).trans rfl
                    have hcz24_2 : w10.cell? ⟨gb115, 2, none⟩ = some (.int .i64 ((rd_T53 l0 x8_1).f2)) := (blk_cell BK115.out 2).trans rfl
                    have hcz24_3 : w10.cell? ⟨gb115, 3, none⟩ = some (.int .i64 ((rd_T53 l0 x8_1).f3.f0)) := (blk_cell BK115.out 3).trans rfl
                    have hcz24_4 : w10.cell? ⟨gb115, 4, none⟩ = some (.int .u64 ((rd_T53 l0 x8_1).f3.f1)) := (blk_cell BK115.out 4).trans rfl
                    have hcz24_5 : w10.cell? ⟨gb115, 5, none⟩ = some (.int .i64 ((rd_T53 l0 x8_1).f3.f2)) := (blk_cell BK115.out 5).trans rfl
                    have hcz24_6 : w10.cell? ⟨gb115, 6, none⟩ = some (.int .i64 ((rd_T53 l0 x8_1).f3.f3)) := (blk_cell BK115.out 6).trans rfl
                    have hcz24_7 : w10.cell? ⟨gb115, 7, none⟩ = some (.int .i64 ((rd_T53 l0 x8_1).f3.f4)) := (blk_cell BK115.out 7).trans rfl
                    have hcz24_8 : w10.cell? ⟨gb115, 8, none⟩ = some (.int .u64 ((rd_T53 l0 x8_1).f3.f5.f0)) := (blk_cell BK115.out 8).trans rfl
                    have hcz24_9 : w10.cell? ⟨gb115, 9, none⟩ = some (.string ((rd_T53 l0 x8_1).f3.f5.f1)) := (blk_cell BK115.out 9).trans rfl
                    have hcz24_10 : w10.cell? ⟨gb115, 10, none⟩ = some (.int .i64 ((rd_T53 l0 x8_1).f4.f0)) := (blk_cell BK115.out 10).trans rfl
                    have hcz24_11 : w10.cell? ⟨gb115, 11, none⟩ = some (.int .i64 ((rd_T53 l0 x8_1).f4.f1)) := (blk_cell BK115.out 11).trans rfl
                    have hcz24_12 : w10.cell? ⟨gb115, 12, none⟩ = some (.slice A114_12 ((rd_T53 l0 x8_1).f4.f2).length c114_12) := (blk_cell BK115.out 12).trans rfl
                    have hfz24_0 := blk_frozen BK115.out 0
                    have hfz24_1 := blk_frozen BK115.out 1
                    have hfz24_2 := blk_frozen BK115.out 2
                    have hfz24_3 := blk_frozen BK115.out 3
                    have hfz24_4 := blk_frozen BK115.out 4
                    have hfz24_5 := blk_frozen BK115.out 5
                    have hfz24_6 := blk_frozen BK115.out 6
                    have hfz24_7 := blk_frozen BK115.out 7
                    have hfz24_8 := blk_frozen BK115.out 8
                    have hfz24_9 := blk_frozen BK115.out 9
                    have hfz24_10 := blk_frozen BK115.out 10
                    have hfz24_11 := blk_frozen BK115.out 11
                    have hfz24_12 := blk_frozen BK115.out 12
                    have hcz25_0 : w10.cell? ⟨gb118, 0, none⟩ = some (.int .i64 0) := (blk_cell BK118.out 0).trans rfl
                    have hcz25_1 : w10.cell? ⟨gb118, 1, none⟩ = some (.int .i64 0) := (blk_cell BK118.out 1).trans rfl
                    have hfz25_0 := blk_frozen BK118.out 0
                    have hfz25_1 := blk_frozen BK118.out 1
                    go_wp2
                    repeat (go_quiet (fail); try go_wp2)
                    go_meet
                    case rel => exact ⟨_, (true), (by first | rfl | (simp; done) | (simp [*]; done) | (rw [Int.tdiv_eq_ediv_of_nonneg]; decide)), H', ⟨by have := HK1.out; first | omega | exact Nat.le_refl _⟩, ⟨by (with_reducible repeat (first | refine blk_drewN ?_ _ | refine blk_drew ?_ | refine blk_alloc ?_ _)); refine blk_far ?_ NB115_118.out _; (with_reducible repeat (first | refine blk_drewN ?_ _ | refine blk_drew ?_ | refine blk_alloc ?_ _)); refine blk_far ?_ NB115_118.out _; (with_reducible repeat (first | refine blk_drewN ?_ _ | refine blk_drew ?_ | refine blk_alloc ?_ _)); exact BK115.out⟩, ⟨by (with_reducible repeat (first | refine blk_drewN ?_ _ | refine blk_drew ?_ | refine blk_alloc ?_ _)); refine blk_put (cs := #[.int .i64 t116, .int .i64 0]) ?_ 1 _ rfl; (with_reducible repeat (first | refine blk_drewN ?_ _ | refine blk_drew ?_ | refine blk_alloc ?_ _)); refine blk_put (cs := #[.int .i64 0, .int .i64 0]) ?_ 0 _ rfl; (with_reducible repeat (first | refine blk_drewN ?_ _ | refine blk_drew ?_ | refine blk_alloc ?_ _)); exact BK118.out⟩, ⟨by repeat (first | (with_reducible first | exact HB.out | apply below_alloc | apply pw_below_drewN | apply below_drew1 | refine below_set ?_ GE115.out | refine below_set ?_ GE118.out) | exact HB.out)⟩⟩
            case rest =>
              clear HC6
              try clear c1
              try clear p1
              try clear q1
              try clear hx1
              try clear c2
              try clear c2b0
              try clear p2
              try clear c3
              try clear c3b0
              try clear c4
              try clear c4b0
              try clear p6
              try clear c10
              try clear c11
              try clear p11
              try clear q11
              try clear hx11
              try clear c13
              try clear c13b0
              try clear c14
              try clear c16
              try clear c16b0
              try clear c17
              try clear c19
              try clear c19b0
              try clear c19b1
              try clear c20
              try clear c23
              try clear hcz12_0
              try clear hcz12_1
              try clear hcz15_0
              try clear hcz15_1
              try clear hcz15_10
              try clear hcz15_11
              try clear hcz15_12
              try clear hcz15_2
              try clear hcz15_3
              try clear hcz15_4
              try clear hcz15_5
              try clear hcz15_6
              try clear hcz15_7
              try clear hcz15_8
              try clear hcz15_9
              try clear hcz18_0
              try clear hcz18_1
              try clear hcz18_10
              try clear hcz18_11
              try clear hcz18_12
              try clear hcz18_2
              try clear hcz18_3
              try clear hcz18_4
              try clear hcz18_5
              try clear hcz18_6
              try clear hcz18_7
              try clear hcz18_8
              try clear hcz18_9
              try clear hcz21_0
              try clear hcz21_1
              try clear hcz21_10
              try clear hcz21_11
              try clear hcz21_12
              try clear hcz21_2
              try clear hcz21_3
              try clear hcz21_4
              try clear hcz21_5
              try clear hcz21_6
              try clear hcz21_7
              try clear hcz21_8
              try clear hcz21_9
              try clear hcz22_0
              try clear hcz22_1
              try clear hcz24_0
              try clear hcz24_1
              try clear hcz24_10
              try clear hcz24_11
              try clear hcz24_12
              try clear hcz24_2
              try clear hcz24_3
              try clear hcz24_4
              try clear hcz24_5
              try clear hcz24_6
              try clear hcz24_7
              try clear hcz24_8
              try clear hcz24_9
              try clear hcz25_0
              try clear hcz25_1
              try clear hcz8_0
              try clear hcz8_1
              try clear hcz8_10
              try clear hcz8_11
              try clear hcz8_12
              try clear hcz8_2
              try clear hcz8_3
              try clear hcz8_4
              try clear hcz8_5
              try clear hcz8_6
              try clear hcz8_7
              try clear hcz8_8
              try clear hcz8_9
              try clear hfz12_0
              try clear hfz12_1
              try clear hfz15_0
              try clear hfz15_1
              try clear hfz15_10
              try clear hfz15_11
              try clear hfz15_12
              try clear hfz15_2
              try clear hfz15_3
              try clear hfz15_4
              try clear hfz15_5
              try clear hfz15_6
              try clear hfz15_7
              try clear hfz15_8
              try clear hfz15_9
              try clear hfz18_0
              try clear hfz18_1
              try clear hfz18_10
              try clear hfz18_11
              try clear hfz18_12
              try clear hfz18_2
              try clear hfz18_3
              try clear hfz18_4
              try clear hfz18_5
              try clear hfz18_6
              try clear hfz18_7
              try clear hfz18_8
              try clear hfz18_9
              try clear hfz21_0
              try clear hfz21_1
              try clear hfz21_10
              try clear hfz21_11
              try clear hfz21_12
              try clear hfz21_2
              try clear hfz21_3
              try clear hfz21_4
              try clear hfz21_5
              try clear hfz21_6
              try clear hfz21_7
              try clear hfz21_8
              try clear hfz21_9
              try clear hfz22_0
              try clear hfz22_1
              try clear hfz24_0
              try clear hfz24_1
              try clear hfz24_10
              try clear hfz24_11
              try clear hfz24_12
              try clear hfz24_2
              try clear hfz24_3
              try clear hfz24_4
              try clear hfz24_5
              try clear hfz24_6
              try clear hfz24_7
              try clear hfz24_8
              try clear hfz24_9
              try clear hfz25_0
              try clear hfz25_1
              try clear hfz8_0
              try clear hfz8_1
              try clear hfz8_10
              try clear hfz8_11
              try clear hfz8_12
              try clear hfz8_2
              try clear hfz8_3
              try clear hfz8_4
              try clear hfz8_5
              try clear hfz8_6
              try clear hfz8_7
              try clear hfz8_8
              try clear hfz8_9
              try clear hx114_0
              try clear hx114_1
              try clear hx114_10
              try clear hx114_11
              try clear hx114_12
              try clear hx114_2
              try clear hx114_3
              try clear hx114_4
              try clear hx114_5
              try clear hx114_6
              try clear hx114_7
              try clear hx114_8
              try clear hx114_9
              try clear p114
              try clear q114
              obtain ⟨kq, x39_5, rfl, HA, HJ5, BK115, BK118, HB⟩ := hcut
              cases kq with
              | zero => exact absurd HA.out (by simp [downpourref22_Right.j1])
              | succ kj5 =>
                have H := HA.out
                clear HA
                simp only [downpourref22_Right.j1] at H
                by_cases c26 : x39_5 = true
                · subst c26
                  have H1 : (some false) = some r := by rw [if_pos rfl] at H; exact H
                  clear H
                  have H := H1
                  clear H1
                  obtain rfl := Option.some.inj H
                  go_wp2
                  repeat (go_quiet (fail); try go_wp2)
                  go_ret
                  exact ⟨by first | rfl | (simp [errW_none, errW_some] <;> rfl) | (simp [*, errW_none, errW_some] <;> rfl), by repeat (first | (with_reducible first | exact HB.out | apply below_alloc | apply pw_below_drewN | apply below_drew1 | refine below_set ?_ GE115.out | refine below_set ?_ GE118.out) | exact HB.out)⟩
                · replace c26 := Bool.eq_false_iff.mpr c26
                  subst c26
                  have H1 : (if ((rd_T53 l0 x8_1).f1) = 1 then (if 0 ≤ t117 then (if t117 < (l0.length : Int) then (if (!(((rd_T53 l0 x8_1).f3.f0) == ((rd_T53 l0 t117).f3.f0)) || (!(((rd_T53 l0 x8_1).f3.f1) == ((rd_T53 l0 t117).f3.f1)) || (!(((rd_T53 l0 x8_1).f3.f2) == ((rd_T53 l0 t117).f3.f2)) || (!(((rd_T53 l0 x8_1).f3.f3) == ((rd_T53 l0 t117).f3.f3)) || (!(((rd_T53 l0 x8_1).f3.f4) == ((rd_T53 l0 t117).f3.f4)) || ((!(((rd_T53 l0 x8_1).f3.f5.f0) == ((rd_T53 l0 t117).f3.f5.f0)) || (!(((rd_T53 l0 x8_1).f3.f5.f1).toList == (((rd_T53 l0 t117).f3.f5.f1).toList)))))))))) = true then (some false) else (downpourref22_Right.l0 kj5 l0 l0 (l0.length : Int) (wrap64 (x8_1 + 1)))) else (none)) else (none)) else (downpourref22_Right.l0 kj5 l0 l0 (l0.length : Int) (wrap64 (x8_1 + 1)))) = some r := by rw [if_neg (show ¬ (false = true) by decide)] at H; exact H
                  clear H
                  have H := H1
                  clear H1
                  by_cases c27 : ((rd_T53 l0 x8_1).f1) = 1
                  · rw [if_pos c27] at H
                    have c27b0 : (((rd_T53 l0 x8_1).f1) == 1) = true := beq_iff_eq.mpr c27
                    have c27b1 : (((rd_T53 l0 x8_1).f1) != 1) = false := bne_eq_false_iff_eq.mpr c27
                    clear c27
                    by_cases c28 : 0 ≤ t117
                    · rw [if_pos c28] at H
                      have c28b0 : decide (0 ≤ t117) = true := decide_eq_true c28
                      clear c28
                      by_cases c29 : t117 < (l0.length : Int)
                      · rw [if_pos c29] at H
                        have c29b0 : decide (t117 < (l0.length : Int)) = true := decide_eq_true c29
                        clear c29
                        by_cases c30 : (!(((rd_T53 l0 x8_1).f3.f0) == ((rd_T53 l0 t117).f3.f0)) || (!(((rd_T53 l0 x8_1).f3.f1) == ((rd_T53 l0 t117).f3.f1)) || (!(((rd_T53 l0 x8_1).f3.f2) == ((rd_T53 l0 t117).f3.f2)) || (!(((rd_T53 l0 x8_1).f3.f3) == ((rd_T53 l0 t117).f3.f3)) || (!(((rd_T53 l0 x8_1).f3.f4) == ((rd_T53 l0 t117).f3.f4)) || ((!(((rd_T53 l0 x8_1).f3.f5.f0) == ((rd_T53 l0 t117).f3.f5.f0)) || (!(((rd_T53 l0 x8_1).f3.f5.f1).toList == (((rd_T53 l0 t117).f3.f5.f1).toList)))))))))) = true
                        · rw [if_pos c30] at H
                          have c30b0 : (!(((rd_T53 l0 x8_1).f3.f0) == ((rd_T53 l0 t117).f3.f0)) || (!(((rd_T53 l0 x8_1).f3.f1) == ((rd_T53 l0 t117).f3.f1)) || (!(((rd_T53 l0 x8_1).f3.f2) == ((rd_T53 l0 t117).f3.f2)) || (!(((rd_T53 l0 x8_1).f3.f3) == ((rd_T53 l0 t117).f3.f3)) || (!(((rd_T53 l0 x8_1).f3.f4) == ((rd_T53 l0 t117).f3.f4)) || ((!(((rd_T53 l0 x8_1).f3.f5.f0) == ((rd_T53 l0 t117).f3.f5.f0)) || (!(((rd_T53 l0 x8_1).f3.f5.f1).toList == (((rd_T53 l0 t117).f3.f5.f1).toList)))))))))) = true := c30
                          clear c30
                          obtain rfl := Option.some.inj H
                          have hnb31 := NB115_118.out
                          have hnc31 := NB118_115.out
                          have hcz32_0 : wc.cell? ⟨gb115, 0, none⟩ = some (.int .i64 ((rd_T53 l0 x8_1).f0)) := (blk_cell BK115.out 0).trans rfl
                          have hcz32_1 : wc.cell? ⟨gb115, 1, none⟩ = some (.int .i64 ((rd_T53 l0 x8_1).f1)) := (blk_cell BK115.out 1).trans rfl
                          have hcz32_2 : wc.cell? ⟨gb115, 2, none⟩ = some (.int .i64 ((rd_T53 l0 x8_1).f2)) := (blk_cell BK115.out 2).trans rfl
                          have hcz32_3 : wc.cell? ⟨gb115, 3, none⟩ = some (.int .i64 ((rd_T53 l0 x8_1).f3.f0)) := (blk_cell BK115.out 3).trans rfl
                          have hcz32_4 : wc.cell? ⟨gb115, 4, none⟩ = some (.int .u64 ((rd_T53 l0 x8_1).f3.f1)) := (blk_cell BK115.out 4).trans rfl
                          have hcz32_5 : wc.cell? ⟨gb115, 5, none⟩ = some (.int .i64 ((rd_T53 l0 x8_1).f3.f2)) := (blk_cell BK115.out 5).trans rfl
                          have hcz32_6 : wc.cell? ⟨gb115, 6, none⟩ = some (.int .i64 ((rd_T53 l0 x8_1).f3.f3)) := (blk_cell BK115.out 6).trans rfl
                          have hcz32_7 : wc.cell? ⟨gb115, 7, none⟩ = some (.int .i64 ((rd_T53 l0 x8_1).f3.f4)) := (blk_cell BK115.out 7).trans rfl
                          have hcz32_8 : wc.cell? ⟨gb115, 8, none⟩ = some (.int .u64 ((rd_T53 l0 x8_1).f3.f5.f0)) := (blk_cell BK115.out 8).trans rfl
                          have hcz32_9 : wc.cell? ⟨gb115, 9, none⟩ = some (.string ((rd_T53 l0 x8_1).f3.f5.f1)) := (blk_cell BK115.out 9).trans rfl
                          have hcz32_10 : wc.cell? ⟨gb115, 10, none⟩ = some (.int .i64 ((rd_T53 l0 x8_1).f4.f0)) := (blk_cell BK115.out 10).trans rfl
                          have hcz32_11 : wc.cell? ⟨gb115, 11, none⟩ = some (.int .i64 ((rd_T53 l0 x8_1).f4.f1)) := (blk_cell BK115.out 11).trans rfl
                          have hcz32_12 : wc.cell? ⟨gb115, 12, none⟩ = some (.slice A114_12 ((rd_T53 l0 x8_1).f4.f2).length c114_12) := (blk_cell BK115.out 12).trans rfl
                          have hfz32_0 := blk_frozen BK115.out 0
                          have hfz32_1 := blk_frozen BK115.out 1
                          have hfz32_2 := blk_frozen BK115.out 2
                          have hfz32_3 := blk_frozen BK115.out 3
                          have hfz32_4 := blk_frozen BK115.out 4
                          have hfz32_5 := blk_frozen BK115.out 5
                          have hfz32_6 := blk_frozen BK115.out 6
                          have hfz32_7 := blk_frozen BK115.out 7
                          have hfz32_8 := blk_frozen BK115.out 8
                          have hfz32_9 := blk_frozen BK115.out 9
                          have hfz32_10 := blk_frozen BK115.out 10
                          have hfz32_11 := blk_frozen BK115.out 11
                          have hfz32_12 := blk_frozen BK115.out 12
                          have hcz33_0 : wc.cell? ⟨gb118, 0, none⟩ = some (.int .i64 t116) := (blk_cell BK118.out 0).trans rfl
                          have hcz33_1 : wc.cell? ⟨gb118, 1, none⟩ = some (.int .i64 t117) := (blk_cell BK118.out 1).trans rfl
                          have hfz33_0 := blk_frozen BK118.out 0
                          have hfz33_1 := blk_frozen BK118.out 1
                          have p119 : 0 ≤ (t117 : Int) := of_decide_eq_true (by first | (with_reducible assumption) | assumption)
                          have q119 : t117 < (l0.length : Int) := of_decide_eq_true (by first | (with_reducible assumption) | assumption)
                          obtain ⟨ad119, A119_12, c119_12, e119, hx119_0, hx119_1, hx119_2, hx119_3, hx119_4, hx119_5, hx119_6, hx119_7, hx119_8, hx119_9, hx119_10, hx119_11, hx119_12, hl119_12, hi119_12⟩ := at_T53 HR0.out t117 p119 q119
                          obtain rfl : ad114 = ad119 := (by injection e119)
                          replace hx119_0 := (HB.out.cell (World.block_lt_of_cell? w _ hx119_0)).trans hx119_0
                          replace hx119_1 := (HB.out.cell (World.block_lt_of_cell? w _ hx119_1)).trans hx119_1
                          replace hx119_2 := (HB.out.cell (World.block_lt_of_cell? w _ hx119_2)).trans hx119_2
                          replace hx119_3 := (HB.out.cell (World.block_lt_of_cell? w _ hx119_3)).trans hx119_3
                          replace hx119_4 := (HB.out.cell (World.block_lt_of_cell? w _ hx119_4)).trans hx119_4
                          replace hx119_5 := (HB.out.cell (World.block_lt_of_cell? w _ hx119_5)).trans hx119_5
                          replace hx119_6 := (HB.out.cell (World.block_lt_of_cell? w _ hx119_6)).trans hx119_6
                          replace hx119_7 := (HB.out.cell (World.block_lt_of_cell? w _ hx119_7)).trans hx119_7
                          replace hx119_8 := (HB.out.cell (World.block_lt_of_cell? w _ hx119_8)).trans hx119_8
                          replace hx119_9 := (HB.out.cell (World.block_lt_of_cell? w _ hx119_9)).trans hx119_9
                          replace hx119_10 := (HB.out.cell (World.block_lt_of_cell? w _ hx119_10)).trans hx119_10
                          replace hx119_11 := (HB.out.cell (World.block_lt_of_cell? w _ hx119_11)).trans hx119_11
                          replace hx119_12 := (HB.out.cell (World.block_lt_of_cell? w _ hx119_12)).trans hx119_12
                          have HR119_12 := Aside0.mk hi119_12
                          have HC119_12 := Aside0.mk hl119_12
                          clear hi119_12 hl119_12
                          replace p119 := eq_true p119
                          replace q119 := eq_true q119
                          go_wp2
                          repeat (go_quiet (fail); try go_wp2)
                          go_ret
                          exact ⟨by first | rfl | (simp [errW_none, errW_some] <;> rfl) | (simp [*, errW_none, errW_some] <;> rfl), by repeat (first | (with_reducible first | exact HB.out | apply below_alloc | apply pw_below_drewN | apply below_drew1 | refine below_set ?_ GE115.out | refine below_set ?_ GE118.out) | exact HB.out)⟩
                        · rw [if_neg c30] at H
                          have c30b0 : (!(((rd_T53 l0 x8_1).f3.f0) == ((rd_T53 l0 t117).f3.f0)) || (!(((rd_T53 l0 x8_1).f3.f1) == ((rd_T53 l0 t117).f3.f1)) || (!(((rd_T53 l0 x8_1).f3.f2) == ((rd_T53 l0 t117).f3.f2)) || (!(((rd_T53 l0 x8_1).f3.f3) == ((rd_T53 l0 t117).f3.f3)) || (!(((rd_T53 l0 x8_1).f3.f4) == ((rd_T53 l0 t117).f3.f4)) || ((!(((rd_T53 l0 x8_1).f3.f5.f0) == ((rd_T53 l0 t117).f3.f5.f0)) || (!(((rd_T53 l0 x8_1).f3.f5.f1).toList == (((rd_T53 l0 t117).f3.f5.f1).toList)))))))))) = false := by simpa using c30
                          clear c30
                          have H' := Aside0.mk H
                          clear H
                          have hnb34 := NB115_118.out
                          have hnc34 := NB118_115.out
                          have hcz35_0 : wc.cell? ⟨gb115, 0, none⟩ = some (.int .i64 ((rd_T53 l0 x8_1).f0)) := (blk_cell BK115.out 0).trans rfl
                          have hcz35_1 : wc.cell? ⟨gb115, 1, none⟩ = some (.int .i64 ((rd_T53 l0 x8_1).f1)) := (blk_cell BK115.out 1).trans rfl
                          have hcz35_2 : wc.cell? ⟨gb115, 2, none⟩ = some (.int .i64 ((rd_T53 l0 x8_1).f2)) := (blk_cell BK115.out 2).trans rfl
                          have hcz35_3 : wc.cell? ⟨gb115, 3, none⟩ = some (.int .i64 ((rd_T53 l0 x8_1).f3.f0)) := (blk_cell BK115.out 3).trans rfl
                          have hcz35_4 : wc.cell? ⟨gb115, 4, none⟩ = some (.int .u64 ((rd_T53 l0 x8_1).f3.f1)) := (blk_cell BK115.out 4).trans rfl
                          have hcz35_5 : wc.cell? ⟨gb115, 5, none⟩ = some (.int .i64 ((rd_T53 l0 x8_1).f3.f2)) := (blk_cell BK115.out 5).trans rfl
                          have hcz35_6 : wc.cell? ⟨gb115, 6, none⟩ = some (.int .i64 ((rd_T53 l0 x8_1).f3.f3)) := (blk_cell BK115.out 6).trans rfl
                          have hcz35_7 : wc.cell? ⟨gb115, 7, none⟩ = some (.int .i64 ((rd_T53 l0 x8_1).f3.f4)) := (blk_cell BK115.out 7).trans rfl
                          have hcz35_8 : wc.cell? ⟨gb115, 8, none⟩ = some (.int .u64 ((rd_T53 l0 x8_1).f3.f5.f0)) := (blk_cell BK115.out 8).trans rfl
                          have hcz35_9 : wc.cell? ⟨gb115, 9, none⟩ = some (.string ((rd_T53 l0 x8_1).f3.f5.f1)) := (blk_cell BK115.out 9).trans rfl
                          have hcz35_10 : wc.cell? ⟨gb115, 10, none⟩ = some (.int .i64 ((rd_T53 l0 x8_1).f4.f0)) := (blk_cell BK115.out 10).trans rfl
                          have hcz35_11 : wc.cell? ⟨gb115, 11, none⟩ = some (.int .i64 ((rd_T53 l0 x8_1).f4.f1)) := (blk_cell BK115.out 11).trans rfl
                          have hcz35_12 : wc.cell? ⟨gb115, 12, none⟩ = some (.slice A114_12 ((rd_T53 l0 x8_1).f4.f2).length c114_12) := (blk_cell BK115.out 12).trans rfl
                          have hfz35_0 := blk_frozen BK115.out 0
                          have hfz35_1 := blk_frozen BK115.out 1
                          have hfz35_2 := blk_frozen BK115.out 2
                          have hfz35_3 := blk_frozen BK115.out 3
                          have hfz35_4 := blk_frozen BK115.out 4
                          have hfz35_5 := blk_frozen BK115.out 5
                          have hfz35_6 := blk_frozen BK115.out 6
                          have hfz35_7 := blk_frozen BK115.out 7
                          have hfz35_8 := blk_frozen BK115.out 8
                          have hfz35_9 := blk_frozen BK115.out 9
                          have hfz35_10 := blk_frozen BK115.out 10
                          have hfz35_11 := blk_frozen BK115.out 11
                          have hfz35_12 := blk_frozen BK115.out 12
                          have hcz36_0 : wc.cell? ⟨gb118, 0, none⟩ = some (.int .i64 t116) := (blk_cell BK118.out 0).trans rfl
                          have hcz36_1 : wc.cell? ⟨gb118, 1, none⟩ = some (.int .i64 t117) := (blk_cell BK118.out 1).trans rfl
                          have hfz36_0 := blk_frozen BK118.out 0
                          have hfz36_1 := blk_frozen BK118.out 1
                          have p119 : 0 ≤ (t117 : Int) := of_decide_eq_true (by first | (with_reducible assumption) | assumption)
                          have q119 : t117 < (l0.length : Int) := of_decide_eq_true (by first | (with_reducible assumption) | assumption)
                          obtain ⟨ad119, A119_12, c119_12, e119, hx119_0, hx119_1, hx119_2, hx119_3, hx119_4, hx119_5, hx119_6, hx119_7, hx119_8, hx119_9, hx119_10, hx119_11, hx119_12, hl119_12, hi119_12⟩ := at_T53 HR0.out t117 p119 q119
                          obtain rfl : ad114 = ad119 := (by injection e119)
                          replace hx119_0 := (HB.out.cell (World.block_lt_of_cell? w _ hx119_0)).trans hx119_0
                          replace hx119_1 := (HB.out.cell (World.block_lt_of_cell? w _ hx119_1)).trans hx119_1
                          replace hx119_2 := (HB.out.cell (World.block_lt_of_cell? w _ hx119_2)).trans hx119_2
                          replace hx119_3 := (HB.out.cell (World.block_lt_of_cell? w _ hx119_3)).trans hx119_3
                          replace hx119_4 := (HB.out.cell (World.block_lt_of_cell? w _ hx119_4)).trans hx119_4
                          replace hx119_5 := (HB.out.cell (World.block_lt_of_cell? w _ hx119_5)).trans hx119_5
                          replace hx119_6 := (HB.out.cell (World.block_lt_of_cell? w _ hx119_6)).trans hx119_6
                          replace hx119_7 := (HB.out.cell (World.block_lt_of_cell? w _ hx119_7)).trans hx119_7
                          replace hx119_8 := (HB.out.cell (World.block_lt_of_cell? w _ hx119_8)).trans hx119_8
                          replace hx119_9 := (HB.out.cell (World.block_lt_of_cell? w _ hx119_9)).trans hx119_9
                          replace hx119_10 := (HB.out.cell (World.block_lt_of_cell? w _ hx119_10)).trans hx119_10
                          replace hx119_11 := (HB.out.cell (World.block_lt_of_cell? w _ hx119_11)).trans hx119_11
                          replace hx119_12 := (HB.out.cell (World.block_lt_of_cell? w _ hx119_12)).trans hx119_12
                          have HR119_12 := Aside0.mk hi119_12
                          have HC119_12 := Aside0.mk hl119_12
                          clear hi119_12 hl119_12
                          replace p119 := eq_true p119
                          replace q119 := eq_true q119
                          go_wp2
                          repeat (go_quiet (fail); try go_wp2)
                          go_roundg kj5
                          case measure => have := HK1.out; have := HJ5.out; omega
                          case rel => exact ⟨(wrap64 (x8_1 + 1)), (by first | rfl | (simp; done) | (simp [*]; done) | (rw [Int.tdiv_eq_ediv_of_nonneg]; decide)), H', ⟨by have := HK1.out; have := HJ5.out; omega⟩, ⟨by repeat (first | (with_reducible first | exact HB.out | apply below_alloc | apply pw_below_drewN | apply below_drew1 | refine below_set ?_ GE115.out | refine below_set ?_ GE118.out) | exact HB.out)⟩⟩
                      · rw [if_neg c29] at H
                        exact absurd H (by simp)
                    · rw [if_neg c28] at H
                      exact absurd H (by simp)
                  · rw [if_neg c27] at H
                    have c27b0 : (((rd_T53 l0 x8_1).f1) == 1) = false := beq_eq_false_iff_ne.mpr c27
                    have c27b1 : (((rd_T53 l0 x8_1).f1) != 1) = true := bne_iff_ne.mpr c27
                    have H' := Aside0.mk H
                    clear H
                    have hnb37 := NB115_118.out
                    have hnc37 := NB118_115.out
                    have hcz38_0 : wc.cell? ⟨gb115, 0, none⟩ = some (.int .i64 ((rd_T53 l0 x8_1).f0)) := (blk_cell BK115.out 0).trans rfl
                    have hcz38_1 : wc.cell? ⟨gb115, 1, none⟩ = some (.int .i64 ((rd_T53 l0 x8_1).f1)) := (blk_cell BK115.out 1).trans rfl
                    have hcz38_2 : wc.cell? ⟨gb115, 2, none⟩ = some (.int .i64 ((rd_T53 l0 x8_1).f2)) := (blk_cell BK115.out 2).trans rfl
                    have hcz38_3 : wc.cell? ⟨gb115, 3, none⟩ = some (.int .i64 ((rd_T53 l0 x8_1).f3.f0)) := (blk_cell BK115.out 3).trans rfl
                    have hcz38_4 : wc.cell? ⟨gb115, 4, none⟩ = some (.int .u64 ((rd_T53 l0 x8_1).f3.f1)) := (blk_cell BK115.out 4).trans rfl
                    have hcz38_5 : wc.cell? ⟨gb115, 5, none⟩ = some (.int .i64 ((rd_T53 l0 x8_1).f3.f2)) := (blk_cell BK115.out 5).trans rfl
                    have hcz38_6 : wc.cell? ⟨gb115, 6, none⟩ = some (.int .i64 ((rd_T53 l0 x8_1).f3.f3)) := (blk_cell BK115.out 6).trans rfl
                    have hcz38_7 : wc.cell? ⟨gb115, 7, none⟩ = some (.int .i64 ((rd_T53 l0 x8_1).f3.f4)) := (blk_cell BK115.out 7).trans rfl
                    have hcz38_8 : wc.cell? ⟨gb115, 8, none⟩ = some (.int .u64 ((rd_T53 l0 x8_1).f3.f5.f0)) := (blk_cell BK115.out 8).trans rfl
                    have hcz38_9 : wc.cell? ⟨gb115, 9, none⟩ = some (.string ((rd_T53 l0 x8_1).f3.f5.f1)) := (blk_cell BK115.out 9).trans rfl
                    have hcz38_10 : wc.cell? ⟨gb115, 10, none⟩ = some (.int .i64 ((rd_T53 l0 x8_1).f4.f0)) := (blk_cell BK115.out 10).trans rfl
                    have hcz38_11 : wc.cell? ⟨gb115, 11, none⟩ = some (.int .i64 ((rd_T53 l0 x8_1).f4.f1)) := (blk_cell BK115.out 11).trans rfl
                    have hcz38_12 : wc.cell? ⟨gb115, 12, none⟩ = some (.slice A114_12 ((rd_T53 l0 x8_1).f4.f2).length c114_12) := (blk_cell BK115.out 12).trans rfl
                    have hfz38_0 := blk_frozen BK115.out 0
                    have hfz38_1 := blk_frozen BK115.out 1
                    have hfz38_2 := blk_frozen BK115.out 2
                    have hfz38_3 := blk_frozen BK115.out 3
                    have hfz38_4 := blk_frozen BK115.out 4
                    have hfz38_5 := blk_frozen BK115.out 5
                    have hfz38_6 := blk_frozen BK115.out 6
                    have hfz38_7 := blk_frozen BK115.out 7
                    have hfz38_8 := blk_frozen BK115.out 8
                    have hfz38_9 := blk_frozen BK115.out 9
                    have hfz38_10 := blk_frozen BK115.out 10
                    have hfz38_11 := blk_frozen BK115.out 11
                    have hfz38_12 := blk_frozen BK115.out 12
                    go_wp2
                    repeat (go_quiet (fail); try go_wp2)
                    go_roundg kj5
                    case measure => have := HK1.out; have := HJ5.out; omega
                    case rel => exact ⟨(wrap64 (x8_1 + 1)), (by first | rfl | (simp; done) | (simp [*]; done) | (rw [Int.tdiv_eq_ediv_of_nonneg]; decide)), H', ⟨by have := HK1.out; have := HJ5.out; omega⟩, ⟨by repeat (first | (with_reducible first | exact HB.out | apply below_alloc | apply pw_below_drewN | apply below_drew1 | refine below_set ?_ GE115.out | refine below_set ?_ GE118.out) | exact HB.out)⟩⟩
          · rw [if_neg c4] at H
            exact absurd H (by simp)
        · rw [if_neg c3] at H
          exact absurd H (by simp)
      · rw [if_neg c2] at H
        have c2b0 : decide (x8_1 < (l0.length : Int)) = false := decide_eq_false c2
        clear c2
        obtain rfl := Option.some.inj H
        go_wp2
        repeat (go_quiet (fail); try go_wp2)
        go_ret
        exact ⟨by first | rfl | (simp [errW_none, errW_some] <;> rfl) | (simp [*, errW_none, errW_some] <;> rfl), by repeat (first | (with_reducible first | exact HB.out | apply below_alloc | apply pw_below_drewN | apply below_drew1) | exact HB.out)⟩

end Go.Proofs.Ytobfcppjmocgnaa.P

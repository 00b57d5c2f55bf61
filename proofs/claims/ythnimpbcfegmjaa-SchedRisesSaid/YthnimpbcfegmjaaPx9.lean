/- Functions and their contracts, printed by stubprint.py (a program of this repo, which runs the kit's print with some functions proved by hand): each call answers what the plain function tells. -/
import Derived.Test.YthnimpbcfegmjaaPx0
import Derived.Test.YthnimpbcfegmjaaPx7
import Derived.Test.YthnimpbcfegmjaaPx8
namespace Go.Proofs.Ythnimpbcfegmjaa.P
open Go.RowKit
open Go.RowKit Go.Proofs.YthnimpbcfegmjaaW.PrintWords Go.Proofs.YthnimpbcfegmjaaW.PrintLast Go.Proofs.YthnimpbcfegmjaaW.PrintMore
attribute [local go_sem] max2_int min2_int max_two min_two max_three min_three max_four min_four   -- for this text's walks alone
set_option linter.unusedVariables false
set_option linter.unusedSimpArgs false

/-! ### downpourref20_Same: function 12 -/
mutual
def downpourref20_Same.j0 : Nat → Bool → List (List (S44)) → List Int → List Int → List Int → List Int → List (List Int) → List (List (S44)) → List Int → List Int → List Int → List Int → List (List Int) → Option (Bool)
  | 0, _, _, _, _, _, _, _, _, _, _, _, _, _ => none
  | k + 1, x22, x182000, x182001, x182002, x182003, x182004, x182005, x183000, x183001, x183002, x183003, x183004, x183005 => if x22 = true then (some false) else (downpourref20_Same.l0 k (x182000.length : Int) 0 x182000 x182001 x182002 x182003 x182004 x182005 x183000 x183001 x183002 x183003 x183004 x183005)
def downpourref20_Same.l0 : Nat → Int → Int → List (List (S44)) → List Int → List Int → List Int → List Int → List (List Int) → List (List (S44)) → List Int → List Int → List Int → List Int → List (List Int) → Option (Bool)
  | 0, _, _, _, _, _, _, _, _, _, _, _, _, _, _ => none
  | k + 1, x25, x26, x182000, x182001, x182002, x182003, x182004, x182005, x183000, x183001, x183002, x183003, x183004, x183005 => if x26 < x25 then (if 0 ≤ x26 then (if x26 < (x182000.length : Int) then (if x26 < (x183000.length : Int) then ((downpourref20_instrs.f k (rd_L2 x182000 x26) (rd_L2 x183000 x26)).bind fun t185 => (if t185 = true then (downpourref20_Same.l0 k x25 (wrap64 (x26 + 1)) x182000 x182001 x182002 x182003 x182004 x182005 x183000 x183001 x183002 x183003 x183004 x183005) else (some false))) else (none)) else (none)) else (none)) else (downpourref20_Same.l1 k (x182005.length : Int) 0 x182000 x182001 x182002 x182003 x182004 x182005 x183000 x183001 x183002 x183003 x183004 x183005)
def downpourref20_Same.l1 : Nat → Int → Int → List (List (S44)) → List Int → List Int → List Int → List Int → List (List Int) → List (List (S44)) → List Int → List Int → List Int → List Int → List (List Int) → Option (Bool)
  | 0, _, _, _, _, _, _, _, _, _, _, _, _, _, _ => none
  | k + 1, x44, x45, x182000, x182001, x182002, x182003, x182004, x182005, x183000, x183001, x183002, x183003, x183004, x183005 => if x45 < x44 then (if 0 ≤ x45 then (if x45 < (x182005.length : Int) then (if x45 < (x183005.length : Int) then ((downpourref01_Numbers.f k (rd_L3 x182005 x45) (rd_L3 x183005 x45)).bind fun t188 => (if t188 = true then (downpourref20_Same.l1 k x44 (wrap64 (x45 + 1)) x182000 x182001 x182002 x182003 x182004 x182005 x183000 x183001 x183002 x183003 x183004 x183005) else (some false))) else (none)) else (none)) else (none)) else ((downpourref01_Numbers.f k x182001 x183001).bind fun t189 => (if t189 = true then ((downpourref01_Numbers.f k x182002 x183002).bind fun t190 => (if t190 = true then ((downpourref01_Numbers.f k x182003 x183003).bind fun t191 => (if t191 = true then ((downpourref01_Numbers.f k x182004 x183004).bind fun t192 => (some t192)) else (some false))) else (some false))) else (some false)))
end
def downpourref20_Same.f (k : Nat) (l0_0 : List (List (S44))) (l0_1 : List Int) (l0_2 : List Int) (l0_3 : List Int) (l0_4 : List Int) (l0_5 : List (List Int)) (l1_0 : List (List (S44))) (l1_1 : List Int) (l1_2 : List Int) (l1_3 : List Int) (l1_4 : List Int) (l1_5 : List (List Int)) : Option (Bool) := if (l0_0.length : Int) = (l1_0.length : Int) then (downpourref20_Same.j0 k ((l0_5.length : Int) != (l1_5.length : Int)) l0_0 l0_1 l0_2 l0_3 l0_4 l0_5 l1_0 l1_1 l1_2 l1_3 l1_4 l1_5) else (downpourref20_Same.j0 k true l0_0 l0_1 l0_2 l0_3 l0_4 l0_5 l1_0 l1_1 l1_2 l1_3 l1_4 l1_5)
theorem downpourref20_Same.mono_l : ∀ k, (∀ y0 y1 y2 y3 y4 y5 y6 y7 y8 y9 y10 y11 y12, LeO (downpourref20_Same.j0 k y0 y1 y2 y3 y4 y5 y6 y7 y8 y9 y10 y11 y12) (downpourref20_Same.j0 (k + 1) y0 y1 y2 y3 y4 y5 y6 y7 y8 y9 y10 y11 y12)) ∧ (∀ y0 y1 y2 y3 y4 y5 y6 y7 y8 y9 y10 y11 y12 y13, LeO (downpourref20_Same.l0 k y0 y1 y2 y3 y4 y5 y6 y7 y8 y9 y10 y11 y12 y13) (downpourref20_Same.l0 (k + 1) y0 y1 y2 y3 y4 y5 y6 y7 y8 y9 y10 y11 y12 y13)) ∧ (∀ y0 y1 y2 y3 y4 y5 y6 y7 y8 y9 y10 y11 y12 y13, LeO (downpourref20_Same.l1 k y0 y1 y2 y3 y4 y5 y6 y7 y8 y9 y10 y11 y12 y13) (downpourref20_Same.l1 (k + 1) y0 y1 y2 y3 y4 y5 y6 y7 y8 y9 y10 y11 y12 y13))
  | 0 => ⟨fun _ _ _ _ _ _ _ _ _ _ _ _ _ r h => by simp [downpourref20_Same.j0] at h, fun _ _ _ _ _ _ _ _ _ _ _ _ _ _ r h => by simp [downpourref20_Same.l0] at h, fun _ _ _ _ _ _ _ _ _ _ _ _ _ _ r h => by simp [downpourref20_Same.l1] at h⟩
  | k + 1 => by
    obtain ⟨ih0, ih1, ih2⟩ := downpourref20_Same.mono_l k
    refine ⟨?_, ?_, ?_⟩
    · intro y0 y1 y2 y3 y4 y5 y6 y7 y8 y9 y10 y11 y12
      unfold downpourref20_Same.j0
      repeat' first
      | (with_reducible exact ih0 _ _ _ _ _ _ _ _ _ _ _ _ _)
      | (with_reducible exact ih1 _ _ _ _ _ _ _ _ _ _ _ _ _ _)
      | (with_reducible exact ih2 _ _ _ _ _ _ _ _ _ _ _ _ _ _)
      | (with_reducible exact downpourref01_Numbers.mono _ _ _)
      | (with_reducible exact downpourref20_instrs.mono _ _ _)
      | (with_reducible exact LeO.refl _)
      | (with_reducible exact LeO.none _)
      | (with_reducible refine LeO.ite ?_ ?_)
      | (with_reducible refine LeO.bind ?_ (fun _ => ?_))
      | exact ih0 _ _ _ _ _ _ _ _ _ _ _ _ _
      | exact ih1 _ _ _ _ _ _ _ _ _ _ _ _ _ _
      | exact ih2 _ _ _ _ _ _ _ _ _ _ _ _ _ _
      | exact downpourref01_Numbers.mono _ _ _
      | exact downpourref20_instrs.mono _ _ _
      | exact LeO.none _
      | refine LeO.ite ?_ ?_
      | refine LeO.bind ?_ (fun _ => ?_)
    · intro y0 y1 y2 y3 y4 y5 y6 y7 y8 y9 y10 y11 y12 y13
      unfold downpourref20_Same.l0
      repeat' first
      | (with_reducible exact ih0 _ _ _ _ _ _ _ _ _ _ _ _ _)
      | (with_reducible exact ih1 _ _ _ _ _ _ _ _ _ _ _ _ _ _)
      | (with_reducible exact ih2 _ _ _ _ _ _ _ _ _ _ _ _ _ _)
      | (with_reducible exact downpourref01_Numbers.mono _ _ _)
      | (with_reducible exact downpourref20_instrs.mono _ _ _)
      | (with_reducible exact LeO.refl _)
      | (with_reducible exact LeO.none _)
      | (with_reducible refine LeO.ite ?_ ?_)
      | (with_reducible refine LeO.bind ?_ (fun _ => ?_))
      | exact ih0 _ _ _ _ _ _ _ _ _ _ _ _ _
      | exact ih1 _ _ _ _ _ _ _ _ _ _ _ _ _ _
      | exact ih2 _ _ _ _ _ _ _ _ _ _ _ _ _ _
      | exact downpourref01_Numbers.mono _ _ _
      | exact downpourref20_instrs.mono _ _ _
      | exact LeO.none _
      | refine LeO.ite ?_ ?_
      | refine LeO.bind ?_ (fun _ => ?_)
    · intro y0 y1 y2 y3 y4 y5 y6 y7 y8 y9 y10 y11 y12 y13
      unfold downpourref20_Same.l1
      repeat' first
      | (with_reducible exact ih0 _ _ _ _ _ _ _ _ _ _ _ _ _)
      | (with_reducible exact ih1 _ _ _ _ _ _ _ _ _ _ _ _ _ _)
      | (with_reducible exact ih2 _ _ _ _ _ _ _ _ _ _ _ _ _ _)
      | (with_reducible exact downpourref01_Numbers.mono _ _ _)
      | (with_reducible exact downpourref20_instrs.mono _ _ _)
      | (with_reducible exact LeO.refl _)
      | (with_reducible exact LeO.none _)
      | (with_reducible refine LeO.ite ?_ ?_)
      | (with_reducible refine LeO.bind ?_ (fun _ => ?_))
      | exact ih0 _ _ _ _ _ _ _ _ _ _ _ _ _
      | exact ih1 _ _ _ _ _ _ _ _ _ _ _ _ _ _
      | exact ih2 _ _ _ _ _ _ _ _ _ _ _ _ _ _
      | exact downpourref01_Numbers.mono _ _ _
      | exact downpourref20_instrs.mono _ _ _
      | exact LeO.none _
      | refine LeO.ite ?_ ?_
      | refine LeO.bind ?_ (fun _ => ?_)
theorem downpourref20_Same.mono : ∀ a0 a1 a2 a3 a4 a5 a6 a7 a8 a9 a10 a11 k, LeO (downpourref20_Same.f k a0 a1 a2 a3 a4 a5 a6 a7 a8 a9 a10 a11) (downpourref20_Same.f (k + 1) a0 a1 a2 a3 a4 a5 a6 a7 a8 a9 a10 a11) := by
  intro a0 a1 a2 a3 a4 a5 a6 a7 a8 a9 a10 a11 k
  obtain ⟨ih0, ih1, ih2⟩ := downpourref20_Same.mono_l k
  unfold downpourref20_Same.f
  repeat' first
      | (with_reducible exact ih0 _ _ _ _ _ _ _ _ _ _ _ _ _)
      | (with_reducible exact ih1 _ _ _ _ _ _ _ _ _ _ _ _ _ _)
      | (with_reducible exact ih2 _ _ _ _ _ _ _ _ _ _ _ _ _ _)
      | (with_reducible exact downpourref01_Numbers.mono _ _ _)
      | (with_reducible exact downpourref20_instrs.mono _ _ _)
      | (with_reducible exact LeO.refl _)
      | (with_reducible exact LeO.none _)
      | (with_reducible refine LeO.ite ?_ ?_)
      | (with_reducible refine LeO.bind ?_ (fun _ => ?_))
      | exact ih0 _ _ _ _ _ _ _ _ _ _ _ _ _
      | exact ih1 _ _ _ _ _ _ _ _ _ _ _ _ _ _
      | exact ih2 _ _ _ _ _ _ _ _ _ _ _ _ _ _
      | exact downpourref01_Numbers.mono _ _ _
      | exact downpourref20_instrs.mono _ _ _
      | exact LeO.none _
      | refine LeO.ite ?_ ?_
      | refine LeO.bind ?_ (fun _ => ?_)
set_option maxHeartbeats 8000000 in
set_option maxRecDepth 100000 in
theorem downpourref20_Same.calls (k : Nat) (A0_0 : Option Addr) (c0_0 : Nat) (l0_0 : List (List (S44))) (A0_1 : Option Addr) (c0_1 : Nat) (l0_1 : List Int) (A0_2 : Option Addr) (c0_2 : Nat) (l0_2 : List Int) (A0_3 : Option Addr) (c0_3 : Nat) (l0_3 : List Int) (A0_4 : Option Addr) (c0_4 : Nat) (l0_4 : List Int) (A0_5 : Option Addr) (c0_5 : Nat) (l0_5 : List (List Int)) (A1_0 : Option Addr) (c1_0 : Nat) (l1_0 : List (List (S44))) (A1_1 : Option Addr) (c1_1 : Nat) (l1_1 : List Int) (A1_2 : Option Addr) (c1_2 : Nat) (l1_2 : List Int) (A1_3 : Option Addr) (c1_3 : Nat) (l1_3 : List Int) (A1_4 : Option Addr) (c1_4 : Nat) (l1_4 : List Int) (A1_5 : Option Addr) (c1_5 : Nat) (l1_5 : List (List Int)) (r : Bool) (w : World) (hr0_0 : Kd.C (Kd.slice 44 k44) w A0_0 l0_0.length l0_0) (hc0_0 : l0_0.length ≤ c0_0) (hr0_1 : Kd.C (Kd.int .i64) w A0_1 l0_1.length l0_1) (hc0_1 : l0_1.length ≤ c0_1) (hr0_2 : Kd.C (Kd.int .i64) w A0_2 l0_2.length l0_2) (hc0_2 : l0_2.length ≤ c0_2) (hr0_3 : Kd.C (Kd.int .i64) w A0_3 l0_3.length l0_3) (hc0_3 : l0_3.length ≤ c0_3) (hr0_4 : Kd.C (Kd.int .i64) w A0_4 l0_4.length l0_4) (hc0_4 : l0_4.length ≤ c0_4) (hr0_5 : Kd.C (Kd.slice 3 (Kd.int .i64)) w A0_5 l0_5.length l0_5) (hc0_5 : l0_5.length ≤ c0_5) (hr1_0 : Kd.C (Kd.slice 44 k44) w A1_0 l1_0.length l1_0) (hc1_0 : l1_0.length ≤ c1_0) (hr1_1 : Kd.C (Kd.int .i64) w A1_1 l1_1.length l1_1) (hc1_1 : l1_1.length ≤ c1_1) (hr1_2 : Kd.C (Kd.int .i64) w A1_2 l1_2.length l1_2) (hc1_2 : l1_2.length ≤ c1_2) (hr1_3 : Kd.C (Kd.int .i64) w A1_3 l1_3.length l1_3) (hc1_3 : l1_3.length ≤ c1_3) (hr1_4 : Kd.C (Kd.int .i64) w A1_4 l1_4.length l1_4) (hc1_4 : l1_4.length ≤ c1_4) (hr1_5 : Kd.C (Kd.slice 3 (Kd.int .i64)) w A1_5 l1_5.length l1_5) (hc1_5 : l1_5.length ≤ c1_5) (h : downpourref20_Same.f k l0_0 l0_1 l0_2 l0_3 l0_4 l0_5 l1_0 l1_1 l1_2 l1_3 l1_4 l1_5 = some r) :
    Calls Try.prog 12 #[.agg #[.slice A0_0 l0_0.length c0_0, .slice A0_1 l0_1.length c0_1, .slice A0_2 l0_2.length c0_2, .slice A0_3 l0_3.length c0_3, .slice A0_4 l0_4.length c0_4, .slice A0_5 l0_5.length c0_5], .agg #[.slice A1_0 l1_0.length c1_0, .slice A1_1 l1_1.length c1_1, .slice A1_2 l1_2.length c1_2, .slice A1_3 l1_3.length c1_3, .slice A1_4 l1_4.length c1_4, .slice A1_5 l1_5.length c1_5]] w fun e w' => e = .returned (.bool r) ∧ Below w.heap.size w w' := by
  have hu26 := Try.underlying26
  have HR0_0 := Aside0.mk hr0_0
  have HC0_0 := Aside0.mk hc0_0
  clear hr0_0 hc0_0
  have HR0_1 := Aside0.mk hr0_1
  have HC0_1 := Aside0.mk hc0_1
  clear hr0_1 hc0_1
  have HR0_2 := Aside0.mk hr0_2
  have HC0_2 := Aside0.mk hc0_2
  clear hr0_2 hc0_2
  have HR0_3 := Aside0.mk hr0_3
  have HC0_3 := Aside0.mk hc0_3
  clear hr0_3 hc0_3
  have HR0_4 := Aside0.mk hr0_4
  have HC0_4 := Aside0.mk hc0_4
  clear hr0_4 hc0_4
  have HR0_5 := Aside0.mk hr0_5
  have HC0_5 := Aside0.mk hc0_5
  clear hr0_5 hc0_5
  have HR1_0 := Aside0.mk hr1_0
  have HC1_0 := Aside0.mk hc1_0
  clear hr1_0 hc1_0
  have HR1_1 := Aside0.mk hr1_1
  have HC1_1 := Aside0.mk hc1_1
  clear hr1_1 hc1_1
  have HR1_2 := Aside0.mk hr1_2
  have HC1_2 := Aside0.mk hc1_2
  clear hr1_2 hc1_2
  have HR1_3 := Aside0.mk hr1_3
  have HC1_3 := Aside0.mk hc1_3
  clear hr1_3 hc1_3
  have HR1_4 := Aside0.mk hr1_4
  have HC1_4 := Aside0.mk hc1_4
  clear hr1_4 hc1_4
  have HR1_5 := Aside0.mk hr1_5
  have HC1_5 := Aside0.mk hc1_5
  clear hr1_5 hc1_5
  have HB := Aside0.mk (Below.refl w.heap.size w)
  have H : (if (l0_0.length : Int) = (l1_0.length : Int) then (downpourref20_Same.j0 k ((l0_5.length : Int) != (l1_5.length : Int)) l0_0 l0_1 l0_2 l0_3 l0_4 l0_5 l1_0 l1_1 l1_2 l1_3 l1_4 l1_5) else (downpourref20_Same.j0 k true l0_0 l0_1 l0_2 l0_3 l0_4 l0_5 l1_0 l1_1 l1_2 l1_3 l1_4 l1_5)) = some r := h
  clear h
  have HC3 := Aside0.mk H
  clear H
  go_enter Try.func12, Try.ntmps12
  go_upto_region 1 with (first | ((with_reducible refine gate_dst (N := 2) rfl ?_); (try (refine gate_guard (by rfl) ?_; dsimp only)); refine box_event ?hg (N := 2) ?hd (cs := #[.slice A0_0 l0_0.length c0_0, .slice A0_1 l0_1.length c0_1, .slice A0_2 l0_2.length c0_2, .slice A0_3 l0_3.length c0_3, .slice A0_4 l0_4.length c0_4, .slice A0_5 l0_5.length c0_5]) (t := 26) ?hr ?_; (case hd => rfl); (case hg => rfl); (case hr => first | (go_simp; done) | (go_simp; rfl)); intro gb181 hg w4 hbox hb; have n0_ := Aside0.mk (below_step (by repeat (first | (with_reducible first | exact HB.out | apply below_alloc | apply pw_below_drewN | apply below_drew1) | exact HB.out)) hb); have n1_ := Aside0.mk (hbox); have n2_ := Aside0.mk ((by rw [hg]; exact (below_size (by repeat (first | (with_reducible first | exact HB.out | apply below_alloc | apply pw_below_drewN | apply below_drew1) | exact HB.out))) : w.heap.size ≤ gb181)); have n3_ := Aside0.mk ((by rw [hg]; exact (below_size (by repeat (first | (with_reducible first | exact HB.out | apply below_alloc | apply pw_below_drewN | apply below_drew1) | exact HB.out))) : w.heap.size ≤ gb181)); clear HB; have HB := n0_; have BK181 := n1_; have GW181 := n2_; have GE181 := n3_; clear n0_ n1_ n2_ n3_; clear hb hbox hg) | ((with_reducible refine gate_dst (N := 3) rfl ?_); (try (refine gate_guard (by rfl) ?_; dsimp only)); refine box_event ?hg (N := 3) ?hd (cs := #[.slice A1_0 l1_0.length c1_0, .slice A1_1 l1_1.length c1_1, .slice A1_2 l1_2.length c1_2, .slice A1_3 l1_3.length c1_3, .slice A1_4 l1_4.length c1_4, .slice A1_5 l1_5.length c1_5]) (t := 26) ?hr ?_; (case hd => rfl); (case hg => rfl); (case hr => first | (go_simp; done) | (go_simp; rfl)); intro gb182 hg w5 hbox hb; have n0_ := Aside0.mk (blk_below (g := gb181) (o := .cells #[.slice A0_0 l0_0.length c0_0, .slice A0_1 l0_1.length c0_1, .slice A0_2 l0_2.length c0_2, .slice A0_3 l0_3.length c0_3, .slice A0_4 l0_4.length c0_4, .slice A0_5 l0_5.length c0_5] 26 (0, 0)) (by (with_reducible repeat (first | refine blk_drewN ?_ _ | refine blk_drew ?_ | refine blk_alloc ?_ _)); exact BK181.out) hb); have n1_ := Aside0.mk (below_step (by repeat (first | (with_reducible first | exact HB.out | apply below_alloc | apply pw_below_drewN | apply below_drew1 | refine below_set ?_ GE181.out) | exact HB.out)) hb); have n2_ := Aside0.mk (hbox); have n3_ := Aside0.mk ((by rw [hg]; exact (below_size (by repeat (first | (with_reducible first | exact HB.out | apply below_alloc | apply pw_below_drewN | apply below_drew1 | refine below_set ?_ GE181.out) | exact HB.out))) : w.heap.size ≤ gb182)); have n4_ := Aside0.mk ((by rw [hg]; exact (below_size (by repeat (first | (with_reducible first | exact HB.out | apply below_alloc | apply pw_below_drewN | apply below_drew1 | refine below_set ?_ GE181.out) | exact HB.out))) : w.heap.size ≤ gb182)); have n5_ := Aside0.mk ((by rw [hg]; exact Nat.ne_of_lt (blk_lt (g := gb181) (o := .cells #[.slice A0_0 l0_0.length c0_0, .slice A0_1 l0_1.length c0_1, .slice A0_2 l0_2.length c0_2, .slice A0_3 l0_3.length c0_3, .slice A0_4 l0_4.length c0_4, .slice A0_5 l0_5.length c0_5] 26 (0, 0)) (by (with_reducible repeat (first | refine blk_drewN ?_ _ | refine blk_drew ?_ | refine blk_alloc ?_ _)); exact BK181.out)) : gb181 ≠ gb182)); have n6_ := Aside0.mk ((by rw [hg]; exact Nat.ne_of_gt (blk_lt (g := gb181) (o := .cells #[.slice A0_0 l0_0.length c0_0, .slice A0_1 l0_1.length c0_1, .slice A0_2 l0_2.length c0_2, .slice A0_3 l0_3.length c0_3, .slice A0_4 l0_4.length c0_4, .slice A0_5 l0_5.length c0_5] 26 (0, 0)) (by (with_reducible repeat (first | refine blk_drewN ?_ _ | refine blk_drew ?_ | refine blk_alloc ?_ _)); exact BK181.out)) : gb182 ≠ gb181)); clear BK181; clear HB; have BK181 := n0_; have HB := n1_; have BK182 := n2_; have GW182 := n3_; have GE182 := n4_; have NB181_182 := n5_; have NB182_181 := n6_; clear n0_ n1_ n2_ n3_ n4_ n5_ n6_; clear hb hbox hg))
  repeat (go_quiet (first | ((with_reducible refine gate_dst (N := 2) rfl ?_); (try (refine gate_guard (by rfl) ?_; dsimp only)); refine box_event ?hg (N := 2) ?hd (cs := #[.slice A0_0 l0_0.length c0_0, .slice A0_1 l0_1.length c0_1, .slice A0_2 l0_2.length c0_2, .slice A0_3 l0_3.length c0_3, .slice A0_4 l0_4.length c0_4, .slice A0_5 l0_5.length c0_5]) (t := 26) ?hr ?_; (case hd => rfl); (case hg => rfl); (case hr => first | (go_simp; done) | (go_simp; rfl)); intro gb181 hg w4 hbox hb; have n0_ := Aside0.mk (below_step (by repeat (first | (with_reducible first | exact HB.out | apply below_alloc | apply pw_below_drewN | apply below_drew1) | exact HB.out)) hb); have n1_ := Aside0.mk (hbox); have n2_ := Aside0.mk ((by rw [hg]; exact (below_size (by repeat (first | (with_reducible first | exact HB.out | apply below_alloc | apply pw_below_drewN | apply below_drew1) | exact HB.out))) : w.heap.size ≤ gb181)); have n3_ := Aside0.mk ((by rw [hg]; exact (below_size (by repeat (first | (with_reducible first | exact HB.out | apply below_alloc | apply pw_below_drewN | apply below_drew1) | exact HB.out))) : w.heap.size ≤ gb181)); clear HB; have HB := n0_; have BK181 := n1_; have GW181 := n2_; have GE181 := n3_; clear n0_ n1_ n2_ n3_; clear hb hbox hg) | ((with_reducible refine gate_dst (N := 3) rfl ?_); (try (refine gate_guard (by rfl) ?_; dsimp only)); refine box_event ?hg (N := 3) ?hd (cs := #[.slice A1_0 l1_0.length c1_0, .slice A1_1 l1_1.length c1_1, .slice A1_2 l1_2.length c1_2, .slice A1_3 l1_3.length c1_3, .slice A1_4 l1_4.length c1_4, .slice A1_5 l1_5.length c1_5]) (t := 26) ?hr ?_; (case hd => rfl); (case hg => rfl); (case hr => first | (go_simp; done) | (go_simp; rfl)); intro gb182 hg w5 hbox hb; have n0_ := Aside0.mk (blk_below (g := gb181) (o := .cells #[.slice A0_0 l0_0.length c0_0, .slice A0_1 l0_1.length c0_1, .slice A0_2 l0_2.length c0_2, .slice A0_3 l0_3.length c0_3, .slice A0_4 l0_4.length c0_4, .slice A0_5 l0_5.length c0_5] 26 (0, 0)) (by (with_reducible repeat (first | refine blk_drewN ?_ _ | refine blk_drew ?_ | refine blk_alloc ?_ _)); exact BK181.out) hb); have n1_ := Aside0.mk (below_step (by repeat (first | (with_reducible first | exact HB.out | apply below_alloc | apply pw_below_drewN | apply below_drew1 | refine below_set ?_ GE181.out) | exact HB.out)) hb); have n2_ := Aside0.mk (hbox); have n3_ := Aside0.mk ((by rw [hg]; exact (below_size (by repeat (first | (with_reducible first | exact HB.out | apply below_alloc | apply pw_below_drewN | apply below_drew1 | refine below_set ?_ GE181.out) | exact HB.out))) : w.heap.size ≤ gb182)); have n4_ := Aside0.mk ((by rw [hg]; exact (below_size (by repeat (first | (with_reducible first | exact HB.out | apply below_alloc | apply pw_below_drewN | apply below_drew1 | refine below_set ?_ GE181.out) | exact HB.out))) : w.heap.size ≤ gb182)); have n5_ := Aside0.mk ((by rw [hg]; exact Nat.ne_of_lt (blk_lt (g := gb181) (o := .cells #[.slice A0_0 l0_0.length c0_0, .slice A0_1 l0_1.length c0_1, .slice A0_2 l0_2.length c0_2, .slice A0_3 l0_3.length c0_3, .slice A0_4 l0_4.length c0_4, .slice A0_5 l0_5.length c0_5] 26 (0, 0)) (by (with_reducible repeat (first | refine blk_drewN ?_ _ | refine blk_drew ?_ | refine blk_alloc ?_ _)); exact BK181.out)) : gb181 ≠ gb182)); have n6_ := Aside0.mk ((by rw [hg]; exact Nat.ne_of_gt (blk_lt (g := gb181) (o := .cells #[.slice A0_0 l0_0.length c0_0, .slice A0_1 l0_1.length c0_1, .slice A0_2 l0_2.length c0_2, .slice A0_3 l0_3.length c0_3, .slice A0_4 l0_4.length c0_4, .slice A0_5 l0_5.length c0_5] 26 (0, 0)) (by (with_reducible repeat (first | refine blk_drewN ?_ _ | refine blk_drew ?_ | refine blk_alloc ?_ _)); exact BK181.out)) : gb182 ≠ gb181)); clear BK181; clear HB; have BK181 := n0_; have HB := n1_; have BK182 := n2_; have GW182 := n3_; have GE182 := n4_; have NB181_182 := n5_; have NB182_181 := n6_; clear n0_ n1_ n2_ n3_ n4_ n5_ n6_; clear hb hbox hg)); go_upto_region 1 with (first | ((with_reducible refine gate_dst (N := 2) rfl ?_); (try (refine gate_guard (by rfl) ?_; dsimp only)); refine box_event ?hg (N := 2) ?hd (cs := #[.slice A0_0 l0_0.length c0_0, .slice A0_1 l0_1.length c0_1, .slice A0_2 l0_2.length c0_2, .slice A0_3 l0_3.length c0_3, .slice A0_4 l0_4.length c0_4, .slice A0_5 l0_5.length c0_5]) (t := 26) ?hr ?_; (case hd => rfl); (case hg => rfl); (case hr => first | (go_simp; done) | (go_simp; rfl)); intro gb181 hg w4 hbox hb; have n0_ := Aside0.mk (below_step (by repeat (first | (with_reducible first | exact HB.out | apply below_alloc | apply pw_below_drewN | apply below_drew1) | exact HB.out)) hb); have n1_ := Aside0.mk (hbox); have n2_ := Aside0.mk ((by rw [hg]; exact (below_size (by repeat (first | (with_reducible first | exact HB.out | apply below_alloc | apply pw_below_drewN | apply below_drew1) | exact HB.out))) : w.heap.size ≤ gb181)); have n3_ := Aside0.mk ((by rw [hg]; exact (below_size (by repeat (first | (with_reducible first | exact HB.out | apply below_alloc | apply pw_below_drewN | apply below_drew1) | exact HB.out))) : w.heap.size ≤ gb181)); clear HB; have HB := n0_; have BK181 := n1_; have GW181 := n2_; have GE181 := n3_; clear n0_ n1_ n2_ n3_; clear hb hbox hg) | ((with_reducible refine gate_dst (N := 3) rfl ?_); (try (refine gate_guard (by rfl) ?_; dsimp only)); refine box_event ?hg (N := 3) ?hd (cs := #[.slice A1_0 l1_0.length c1_0, .slice A1_1 l1_1.length c1_1, .slice A1_2 l1_2.length c1_2, .slice A1_3 l1_3.length c1_3, .slice A1_4 l1_4.length c1_4, .slice A1_5 l1_5.length c1_5]) (t := 26) ?hr ?_; (case hd => rfl); (case hg => rfl); (case hr => first | (go_simp; done) | (go_simp; rfl)); intro gb182 hg w5 hbox hb; have n0_ := Aside0.mk (blk_below (g := gb181) (o := .cells #[.slice A0_0 l0_0.length c0_0, .slice A0_1 l0_1.length c0_1, .slice A0_2 l0_2.length c0_2, .slice A0_3 l0_3.length c0_3, .slice A0_4 l0_4.length c0_4, .slice A0_5 l0_5.length c0_5] 26 (0, 0)) (by (with_reducible repeat (first | refine blk_drewN ?_ _ | refine blk_drew ?_ | refine blk_alloc ?_ _)); exact BK181.out) hb); have n1_ := Aside0.mk (below_step (by repeat (first | (with_reducible first | exact HB.out | apply below_alloc | apply pw_below_drewN | apply below_drew1 | refine below_set ?_ GE181.out) | exact HB.out)) hb); have n2_ := Aside0.mk (hbox); have n3_ := Aside0.mk ((by rw [hg]; exact (below_size (by repeat (first | (with_reducible first | exact HB.out | apply below_alloc | apply pw_below_drewN | apply below_drew1 | refine below_set ?_ GE181.out) | exact HB.out))) : w.heap.size ≤ gb182)); have n4_ := Aside0.mk ((by rw [hg]; exact (below_size (by repeat (first | (with_reducible first | exact HB.out | apply below_alloc | apply pw_below_drewN | apply below_drew1 | refine below_set ?_ GE181.out) | exact HB.out))) : w.heap.size ≤ gb182)); have n5_ := Aside0.mk ((by rw [hg]; exact Nat.ne_of_lt (blk_lt (g := gb181) (o := .cells #[.slice A0_0 l0_0.length c0_0, .slice A0_1 l0_1.length c0_1, .slice A0_2 l0_2.length c0_2, .slice A0_3 l0_3.length c0_3, .slice A0_4 l0_4.length c0_4, .slice A0_5 l0_5.length c0_5] 26 (0, 0)) (by (with_reducible repeat (first | refine blk_drewN ?_ _ | refine blk_drew ?_ | refine blk_alloc ?_ _)); exact BK181.out)) : gb181 ≠ gb182)); have n6_ := Aside0.mk ((by rw [hg]; exact Nat.ne_of_gt (blk_lt (g := gb181) (o := .cells #[.slice A0_0 l0_0.length c0_0, .slice A0_1 l0_1.length c0_1, .slice A0_2 l0_2.length c0_2, .slice A0_3 l0_3.length c0_3, .slice A0_4 l0_4.length c0_4, .slice A0_5 l0_5.length c0_5] 26 (0, 0)) (by (with_reducible repeat (first | refine blk_drewN ?_ _ | refine blk_drew ?_ | refine blk_alloc ?_ _)); exact BK181.out)) : gb182 ≠ gb181)); clear BK181; clear HB; have BK181 := n0_; have HB := n1_; have BK182 := n2_; have GW182 := n3_; have GE182 := n4_; have NB181_182 := n5_; have NB182_181 := n6_; clear n0_ n1_ n2_ n3_ n4_ n5_ n6_; clear hb hbox hg)))
  (try simp only [Act.put, List.setIfInBounds_toArray, List.set_cons_zero, List.set_cons_succ])
  go_cut [22] (fun v22 wc => ∃ (kq : Nat) (x22_2 : Bool), v22 = .bool x22_2 ∧ Aside0 (downpourref20_Same.j0 kq x22_2 l0_0 l0_1 l0_2 l0_3 l0_4 l0_5 l1_0 l1_1 l1_2 l1_3 l1_4 l1_5 = some r) ∧ Aside0 (kq ≤ k) ∧ Aside0 (wc.heap[gb181]? = some (.cells #[(.slice A0_0 l0_0.length c0_0), (.slice A0_1 l0_1.length c0_1), (.slice A0_2 l0_2.length c0_2), (.slice A0_3 l0_3.length c0_3), (.slice A0_4 l0_4.length c0_4), (.slice A0_5 l0_5.length c0_5)] 26 (0, 0))) ∧ Aside0 (wc.heap[gb182]? = some (.cells #[(.slice A1_0 l1_0.length c1_0), (.slice A1_1 l1_1.length c1_1), (.slice A1_2 l1_2.length c1_2), (.slice A1_3 l1_3.length c1_3), (.slice A1_4 l1_4.length c1_4), (.slice A1_5 l1_5.length c1_5)] 26 (0, 0))) ∧ Aside0 (Below w.heap.size w wc))
  case first =>
    have H := HC3.out
    clear HC3
    by_cases c6 : (l0_0.length : Int) = (l1_0.length : Int)
    · rw [if_pos c6] at H
      have c6b0 : ((l0_0.length : Int) == (l1_0.length : Int)) = true := beq_iff_eq.mpr c6
      have c6b1 : ((l0_0.length : Int) != (l1_0.length : Int)) = false := bne_eq_false_iff_eq.mpr c6
      have c6b2 : (l0_0.length == l1_0.length) = true := by first | simpa using c6 | (simp at c6 ⊢; omega)
      clear c6
      (first | rw [c6b0] | (simp only [i64_w, i32_w]; rw [c6b0]) | skip)
      have H' := Aside0.mk H
      clear H
      have hnb7 := NB181_182.out
      have hnc7 := NB182_181.out
      have hcz8_0 : w5.cell? ⟨gb181, 0, none⟩ = some (.slice A0_0 l0_0.length c0_0) := (blk_cell BK181.out 0).trans rfl
      have hcz8_1 : w5.cell? ⟨gb181, 1, none⟩ = some (.slice A0_1 l0_1.length c0_1) := (blk_cell BK181.out 1).trans rfl
      have hcz8_2 : w5.cell? ⟨gb181, 2, none⟩ = some (.slice A0_2 l0_2.length c0_2) := (blk_cell BK181.out 2).trans rfl
      have hcz8_3 : w5.cell? ⟨gb181, 3, none⟩ = some (.slice A0_3 l0_3.length c0_3) := (blk_cell BK181.out 3).trans rfl
      have hcz8_4 : w5.cell? ⟨gb181, 4, none⟩ = some (.slice A0_4 l0_4.length c0_4) := (blk_cell BK181.out 4).trans rfl
      have hcz8_5 : w5.cell? ⟨gb181, 5, none⟩ = some (.slice A0_5 l0_5.length c0_5) := (blk_cell BK181.out 5).trans rfl
      have hfz8_0 := blk_frozen BK181.out 0
      have hfz8_1 := blk_frozen BK181.out 1
      have hfz8_2 := blk_frozen BK181.out 2
      have hfz8_3 := blk_frozen BK181.out 3
      have hfz8_4 := blk_frozen BK181.out 4
      have hfz8_5 := blk_frozen BK181.out 5
      have hcz9_0 : w5.cell? ⟨gb182, 0, none⟩ = some (.slice A1_0 l1_0.length c1_0) := (blk_cell BK182.out 0).trans rfl
      have hcz9_1 : w5.cell? ⟨gb182, 1, none⟩ = some (.slice A1_1 l1_1.length c1_1) := (blk_cell BK182.out 1).trans rfl
      have hcz9_2 : w5.cell? ⟨gb182, 2, none⟩ = some (.slice A1_2 l1_2.length c1_2) := (blk_cell BK182.out 2).trans rfl
      have hcz9_3 : w5.cell? ⟨gb182, 3, none⟩ = some (.slice A1_3 l1_3.length c1_3) := (blk_cell BK182.out 3).trans rfl
      have hcz9_4 : w5.cell? ⟨gb182, 4, none⟩ = some (.slice A1_4 l1_4.length c1_4) := (blk_cell BK182.out 4).trans rfl
      have hcz9_5 : w5.cell? ⟨gb182, 5, none⟩ = some (.slice A1_5 l1_5.length c1_5) := (blk_cell BK182.out 5).trans rfl
      have hfz9_0 := blk_frozen BK182.out 0
      have hfz9_1 := blk_frozen BK182.out 1
      have hfz9_2 := blk_frozen BK182.out 2
      have hfz9_3 := blk_frozen BK182.out 3
      have hfz9_4 := blk_frozen BK182.out 4
      have hfz9_5 := blk_frozen BK182.out 5
      go_wp2
      repeat (go_quiet (fail); try go_wp2)
      go_meet
      case rel => exact ⟨_, (((l0_5.length : Int) != (l1_5.length : Int))), (by first | rfl | (simp; done) | (simp [*]; done)), H', ⟨by first | omega | exact Nat.le_refl _⟩, ⟨by (with_reducible repeat (first | refine blk_drewN ?_ _ | refine blk_drew ?_ | refine blk_alloc ?_ _)); exact BK181.out⟩, ⟨by (with_reducible repeat (first | refine blk_drewN ?_ _ | refine blk_drew ?_ | refine blk_alloc ?_ _)); exact BK182.out⟩, ⟨by repeat (first | (with_reducible first | exact HB.out | apply below_alloc | apply pw_below_drewN | apply below_drew1 | refine below_set ?_ GE181.out | refine below_set ?_ GE182.out) | exact HB.out)⟩⟩
    · rw [if_neg c6] at H
      have c6b0 : ((l0_0.length : Int) == (l1_0.length : Int)) = false := beq_eq_false_iff_ne.mpr c6
      have c6b1 : ((l0_0.length : Int) != (l1_0.length : Int)) = true := bne_iff_ne.mpr c6
      have c6b2 : (l0_0.length == l1_0.length) = false := by first | simpa using c6 | (simp at c6 ⊢; omega)
      (first | rw [c6b0] | (simp only [i64_w, i32_w]; rw [c6b0]) | skip)
      have H' := Aside0.mk H
      clear H
      have hnb10 := NB181_182.out
      have hnc10 := NB182_181.out
      have hcz11_0 : w5.cell? ⟨gb181, 0, none⟩ = some (.slice A0_0 l0_0.length c0_0) := (blk_cell BK181.out 0).trans rfl
      have hcz11_1 : w5.cell? ⟨gb181, 1, none⟩ = some (.slice A0_1 l0_1.length c0_1) := (blk_cell BK181.out 1).trans rfl
      have hcz11_2 : w5.cell? ⟨gb181, 2, none⟩ = some (.slice A0_2 l0_2.length c0_2) := (blk_cell BK181.out 2).trans rfl
      have hcz11_3 : w5.cell? ⟨gb181, 3, none⟩ = some (.slice A0_3 l0_3.length c0_3) := (blk_cell BK181.out 3).trans rfl
      have hcz11_4 : w5.cell? ⟨gb181, 4, none⟩ = some (.slice A0_4 l0_4.length c0_4) := (blk_cell BK181.out 4).trans rfl
      have hcz11_5 : w5.cell? ⟨gb181, 5, none⟩ = some (.slice A0_5 l0_5.length c0_5) := (blk_cell BK181.out 5).trans rfl
      have hfz11_0 := blk_frozen BK181.out 0
      have hfz11_1 := blk_frozen BK181.out 1
      have hfz11_2 := blk_frozen BK181.out 2
      have hfz11_3 := blk_frozen BK181.out 3
      have hfz11_4 := blk_frozen BK181.out 4
      have hfz11_5 := blk_frozen BK181.out 5
      have hcz12_0 : w5.cell? ⟨gb182, 0, none⟩ = some (.slice A1_0 l1_0.length c1_0) := (blk_cell BK182.out 0).trans rfl
      have hcz12_1 : w5.cell? ⟨gb182, 1, none⟩ = some (.slice A1_1 l1_1.length c1_1) := (blk_cell BK182.out 1).trans rfl
      have hcz12_2 : w5.cell? ⟨gb182, 2, none⟩ = some (.slice A1_2 l1_2.length c1_2) := (blk_cell BK182.out 2).trans rfl
      have hcz12_3 : w5.cell? ⟨gb182, 3, none⟩ = some (.slice A1_3 l1_3.length c1_3) := (blk_cell BK182.out 3).trans rfl
      have hcz12_4 : w5.cell? ⟨gb182, 4, none⟩ = some (.slice A1_4 l1_4.length c1_4) := (blk_cell BK182.out 4).trans rfl
      have hcz12_5 : w5.cell? ⟨gb182, 5, none⟩ = some (.slice A1_5 l1_5.length c1_5) := (blk_cell BK182.out 5).trans rfl
      have hfz12_0 := blk_frozen BK182.out 0
      have hfz12_1 := blk_frozen BK182.out 1
      have hfz12_2 := blk_frozen BK182.out 2
      have hfz12_3 := blk_frozen BK182.out 3
      have hfz12_4 := blk_frozen BK182.out 4
      have hfz12_5 := blk_frozen BK182.out 5
      go_wp2
      repeat (go_quiet (fail); try go_wp2)
      go_meet
      case rel => exact ⟨_, (true), (by first | rfl | (simp; done) | (simp [*]; done)), H', ⟨by first | omega | exact Nat.le_refl _⟩, ⟨by (with_reducible repeat (first | refine blk_drewN ?_ _ | refine blk_drew ?_ | refine blk_alloc ?_ _)); exact BK181.out⟩, ⟨by (with_reducible repeat (first | refine blk_drewN ?_ _ | refine blk_drew ?_ | refine blk_alloc ?_ _)); exact BK182.out⟩, ⟨by repeat (first | (with_reducible first | exact HB.out | apply below_alloc | apply pw_below_drewN | apply below_drew1 | refine below_set ?_ GE181.out | refine below_set ?_ GE182.out) | exact HB.out)⟩⟩
  case rest =>
    clear HC3
    try clear c1
    try clear p2
    try clear c6
    try clear c6b0
    try clear c6b1
    try clear c6b2
    try clear c7
    try clear c10
    try clear c12
    try clear hcz11_0
    try clear hcz11_1
    try clear hcz11_2
    try clear hcz11_3
    try clear hcz11_4
    try clear hcz11_5
    try clear hcz12_0
    try clear hcz12_1
    try clear hcz12_2
    try clear hcz12_3
    try clear hcz12_4
    try clear hcz12_5
    try clear hcz8_0
    try clear hcz8_1
    try clear hcz8_2
    try clear hcz8_3
    try clear hcz8_4
    try clear hcz8_5
    try clear hcz9_0
    try clear hcz9_1
    try clear hcz9_2
    try clear hcz9_3
    try clear hcz9_4
    try clear hcz9_5
    try clear hfz11_0
    try clear hfz11_1
    try clear hfz11_2
    try clear hfz11_3
    try clear hfz11_4
    try clear hfz11_5
    try clear hfz12_0
    try clear hfz12_1
    try clear hfz12_2
    try clear hfz12_3
    try clear hfz12_4
    try clear hfz12_5
    try clear hfz8_0
    try clear hfz8_1
    try clear hfz8_2
    try clear hfz8_3
    try clear hfz8_4
    try clear hfz8_5
    try clear hfz9_0
    try clear hfz9_1
    try clear hfz9_2
    try clear hfz9_3
    try clear hfz9_4
    try clear hfz9_5
    obtain ⟨kq, x22_2, rfl, HA, HJ2, BK181, BK182, HB⟩ := hcut
    cases kq with
    | zero => exact absurd HA.out (by simp [downpourref20_Same.j0])
    | succ kj2 =>
      have H := HA.out
      clear HA
      simp only [downpourref20_Same.j0] at H
      by_cases c13 : x22_2 = true
      · subst c13
        have H1 : (some false) = some r := by rw [if_pos rfl] at H; exact H
        clear H
        have H := H1
        clear H1
        obtain rfl := Option.some.inj H
        go_wp2
        repeat (go_quiet (fail); try go_wp2)
        go_ret
        exact ⟨by first | rfl | (simp [errW_none, errW_some] <;> rfl) | (simp [*, errW_none, errW_some] <;> rfl), by repeat (first | (with_reducible first | exact HB.out | apply below_alloc | apply pw_below_drewN | apply below_drew1 | refine below_set ?_ GE181.out | refine below_set ?_ GE182.out) | exact HB.out)⟩
      · replace c13 := Bool.eq_false_iff.mpr c13
        subst c13
        have H1 : (downpourref20_Same.l0 kj2 (l0_0.length : Int) 0 l0_0 l0_1 l0_2 l0_3 l0_4 l0_5 l1_0 l1_1 l1_2 l1_3 l1_4 l1_5) = some r := by rw [if_neg (show ¬ (false = true) by decide)] at H; exact H
        clear H
        have H := H1
        clear H1
        have H' := Aside0.mk H
        clear H
        have hnb14 := NB181_182.out
        have hnc14 := NB182_181.out
        have hcz15_0 : wc.cell? ⟨gb181, 0, none⟩ = some (.slice A0_0 l0_0.length c0_0) := (blk_cell BK181.out 0).trans rfl
        have hcz15_1 : wc.cell? ⟨gb181, 1, none⟩ = some (.slice A0_1 l0_1.length c0_1) := (blk_cell BK181.out 1).trans rfl
        have hcz15_2 : wc.cell? ⟨gb181, 2, none⟩ = some (.slice A0_2 l0_2.length c0_2) := (blk_cell BK181.out 2).trans rfl
        have hcz15_3 : wc.cell? ⟨gb181, 3, none⟩ = some (.slice A0_3 l0_3.length c0_3) := (blk_cell BK181.out 3).trans rfl
        have hcz15_4 : wc.cell? ⟨gb181, 4, none⟩ = some (.slice A0_4 l0_4.length c0_4) := (blk_cell BK181.out 4).trans rfl
        have hcz15_5 : wc.cell? ⟨gb181, 5, none⟩ = some (.slice A0_5 l0_5.length c0_5) := (blk_cell BK181.out 5).trans rfl
        have hfz15_0 := blk_frozen BK181.out 0
        have hfz15_1 := blk_frozen BK181.out 1
        have hfz15_2 := blk_frozen BK181.out 2
        have hfz15_3 := blk_frozen BK181.out 3
        have hfz15_4 := blk_frozen BK181.out 4
        have hfz15_5 := blk_frozen BK181.out 5
        go_wp2
        repeat (go_quiet (fail); try go_wp2)
        go_loopg [26] kj2 (fun kq v26 w' => ∃ (x26_2 : Int), v26 = .int .i64 x26_2 ∧ Aside0 (downpourref20_Same.l0 kq (l0_0.length : Int) x26_2 l0_0 l0_1 l0_2 l0_3 l0_4 l0_5 l1_0 l1_1 l1_2 l1_3 l1_4 l1_5 = some r) ∧ Aside0 (kq ≤ kj2) ∧ Aside0 (w'.heap[gb181]? = some (.cells #[(.slice A0_0 l0_0.length c0_0), (.slice A0_1 l0_1.length c0_1), (.slice A0_2 l0_2.length c0_2), (.slice A0_3 l0_3.length c0_3), (.slice A0_4 l0_4.length c0_4), (.slice A0_5 l0_5.length c0_5)] 26 (0, 0))) ∧ Aside0 (w'.heap[gb182]? = some (.cells #[(.slice A1_0 l1_0.length c1_0), (.slice A1_1 l1_1.length c1_1), (.slice A1_2 l1_2.length c1_2), (.slice A1_3 l1_3.length c1_3), (.slice A1_4 l1_4.length c1_4), (.slice A1_5 l1_5.length c1_5)] 26 (0, 0))) ∧ Aside0 (Below w.heap.size w w'))
        case atStart => exact ⟨(0), (by first | rfl | (simp; done) | (simp [*]; done)), H', ⟨Nat.le_refl _⟩, ⟨by (with_reducible repeat (first | refine blk_drewN ?_ _ | refine blk_drew ?_ | refine blk_alloc ?_ _)); exact BK181.out⟩, ⟨by (with_reducible repeat (first | refine blk_drewN ?_ _ | refine blk_drew ?_ | refine blk_alloc ?_ _)); exact BK182.out⟩, ⟨by repeat (first | (with_reducible first | exact HB.out | apply below_alloc | apply pw_below_drewN | apply below_drew1 | refine below_set ?_ GE181.out | refine below_set ?_ GE182.out) | exact HB.out)⟩⟩
        case round =>
          clear H'
          try clear c1
          try clear p2
          try clear c6
          try clear c6b0
          try clear c6b1
          try clear c6b2
          try clear c7
          try clear c10
          try clear c12
          try clear c13
          try clear c14
          try clear hcz11_0
          try clear hcz11_1
          try clear hcz11_2
          try clear hcz11_3
          try clear hcz11_4
          try clear hcz11_5
          try clear hcz12_0
          try clear hcz12_1
          try clear hcz12_2
          try clear hcz12_3
          try clear hcz12_4
          try clear hcz12_5
          try clear hcz15_0
          try clear hcz15_1
          try clear hcz15_2
          try clear hcz15_3
          try clear hcz15_4
          try clear hcz15_5
          try clear hcz8_0
          try clear hcz8_1
          try clear hcz8_2
          try clear hcz8_3
          try clear hcz8_4
          try clear hcz8_5
          try clear hcz9_0
          try clear hcz9_1
          try clear hcz9_2
          try clear hcz9_3
          try clear hcz9_4
          try clear hcz9_5
          try clear hfz11_0
          try clear hfz11_1
          try clear hfz11_2
          try clear hfz11_3
          try clear hfz11_4
          try clear hfz11_5
          try clear hfz12_0
          try clear hfz12_1
          try clear hfz12_2
          try clear hfz12_3
          try clear hfz12_4
          try clear hfz12_5
          try clear hfz15_0
          try clear hfz15_1
          try clear hfz15_2
          try clear hfz15_3
          try clear hfz15_4
          try clear hfz15_5
          try clear hfz8_0
          try clear hfz8_1
          try clear hfz8_2
          try clear hfz8_3
          try clear hfz8_4
          try clear hfz8_5
          try clear hfz9_0
          try clear hfz9_1
          try clear hfz9_2
          try clear hfz9_3
          try clear hfz9_4
          try clear hfz9_5
          try clear p2
          obtain ⟨x26_2, rfl, HA, HK2, BK181, BK182, HB⟩ := hrel
          cases gk with
          | zero => exact absurd HA.out (by simp [downpourref20_Same.l0])
          | succ k2 =>
            have H := HA.out
            clear HA
            simp only [downpourref20_Same.l0] at H
            by_cases c16 : x26_2 < (l0_0.length : Int)
            · rw [if_pos c16] at H
              have c16b0 : decide (x26_2 < (l0_0.length : Int)) = true := decide_eq_true c16
              clear c16
              by_cases c17 : 0 ≤ x26_2
              · rw [if_pos c17] at H
                have c17b0 : decide (0 ≤ x26_2) = true := decide_eq_true c17
                clear c17
                by_cases c18 : x26_2 < (l0_0.length : Int)
                · rw [if_pos c18] at H
                  have c18b0 : decide (x26_2 < (l0_0.length : Int)) = true := decide_eq_true c18
                  clear c18
                  by_cases c19 : x26_2 < (l1_0.length : Int)
                  · rw [if_pos c19] at H
                    have c19b0 : decide (x26_2 < (l1_0.length : Int)) = true := decide_eq_true c19
                    clear c19
                    replace H := Option.bind_eq_some_iff.mp H
                    obtain ⟨t185, A200, H⟩ := H
                    replace H : (if t185 = true then (downpourref20_Same.l0 k2 (l0_0.length : Int) (wrap64 (x26_2 + 1)) l0_0 l0_1 l0_2 l0_3 l0_4 l0_5 l1_0 l1_1 l1_2 l1_3 l1_4 l1_5) else (some false)) = some r := H
                    have A20 := Aside0.mk A200
                    clear A200
                    by_cases c21 : t185 = true
                    · subst c21
                      have H1 : (downpourref20_Same.l0 k2 (l0_0.length : Int) (wrap64 (x26_2 + 1)) l0_0 l0_1 l0_2 l0_3 l0_4 l0_5 l1_0 l1_1 l1_2 l1_3 l1_4 l1_5) = some r := by rw [if_pos rfl] at H; exact H
                      clear H
                      have H := H1
                      clear H1
                      have H' := Aside0.mk H
                      clear H
                      have hnb22 := NB181_182.out
                      have hnc22 := NB182_181.out
                      have hcz23_0 : wr.cell? ⟨gb181, 0, none⟩ = some (.slice A0_0 l0_0.length c0_0) := (blk_cell BK181.out 0).trans rfl
                      have hcz23_1 : wr.cell? ⟨gb181, 1, none⟩ = some (.slice A0_1 l0_1.length c0_1) := (blk_cell BK181.out 1).trans rfl
                      have hcz23_2 : wr.cell? ⟨gb181, 2, none⟩ = some (.slice A0_2 l0_2.length c0_2) := (blk_cell BK181.out 2).trans rfl
                      have hcz23_3 : wr.cell? ⟨gb181, 3, none⟩ = some (.slice A0_3 l0_3.length c0_3) := (blk_cell BK181.out 3).trans rfl
                      have hcz23_4 : wr.cell? ⟨gb181, 4, none⟩ = some (.slice A0_4 l0_4.length c0_4) := (blk_cell BK181.out 4).trans rfl
                      have hcz23_5 : wr.cell? ⟨gb181, 5, none⟩ = some (.slice A0_5 l0_5.length c0_5) := (blk_cell BK181.out 5).trans rfl
                      have hfz23_0 := blk_frozen BK181.out 0
                      have hfz23_1 := blk_frozen BK181.out 1
                      have hfz23_2 := blk_frozen BK181.out 2
                      have hfz23_3 := blk_frozen BK181.out 3
                      have hfz23_4 := blk_frozen BK181.out 4
                      have hfz23_5 := blk_frozen BK181.out 5
                      have p183 : 0 ≤ (x26_2 : Int) := of_decide_eq_true (by first | (with_reducible assumption) | assumption)
                      have q183 : x26_2 < (l0_0.length : Int) := of_decide_eq_true (by first | (with_reducible assumption) | assumption)
                      obtain ⟨ad183, A183_0, c183_0, e183, hx183_0, hl183_0, hi183_0⟩ := at_L2 HR0_0.out x26_2 p183 q183
                      cases e183
                      replace hx183_0 := (HB.out.cell (World.block_lt_of_cell? w _ hx183_0)).trans hx183_0
                      have HR183_0 := Aside0.mk hi183_0
                      have HC183_0 := Aside0.mk hl183_0
                      clear hi183_0 hl183_0
                      replace p183 := eq_true p183
                      replace q183 := eq_true q183
                      have hcz24_0 : wr.cell? ⟨gb182, 0, none⟩ = some (.slice A1_0 l1_0.length c1_0) := (blk_cell BK182.out 0).trans rfl
                      have hcz24_1 : wr.cell? ⟨gb182, 1, none⟩ = some (.slice A1_1 l1_1.length c1_1) := (blk_cell BK182.out 1).trans rfl
                      have hcz24_2 : wr.cell? ⟨gb182, 2, none⟩ = some (.slice A1_2 l1_2.length c1_2) := (blk_cell BK182.out 2).trans rfl
                      have hcz24_3 : wr.cell? ⟨gb182, 3, none⟩ = some (.slice A1_3 l1_3.length c1_3) := (blk_cell BK182.out 3).trans rfl
                      have hcz24_4 : wr.cell? ⟨gb182, 4, none⟩ = some (.slice A1_4 l1_4.length c1_4) := (blk_cell BK182.out 4).trans rfl
                      have hcz24_5 : wr.cell? ⟨gb182, 5, none⟩ = some (.slice A1_5 l1_5.length c1_5) := (blk_cell BK182.out 5).trans rfl
                      have hfz24_0 := blk_frozen BK182.out 0
                      have hfz24_1 := blk_frozen BK182.out 1
                      have hfz24_2 := blk_frozen BK182.out 2
                      have hfz24_3 := blk_frozen BK182.out 3
                      have hfz24_4 := blk_frozen BK182.out 4
                      have hfz24_5 := blk_frozen BK182.out 5
                      have p184 : 0 ≤ (x26_2 : Int) := of_decide_eq_true (by first | (with_reducible assumption) | assumption)
                      have q184 : x26_2 < (l1_0.length : Int) := of_decide_eq_true (by first | (with_reducible assumption) | assumption)
                      obtain ⟨ad184, A184_0, c184_0, e184, hx184_0, hl184_0, hi184_0⟩ := at_L2 HR1_0.out x26_2 p184 q184
                      cases e184
                      replace hx184_0 := (HB.out.cell (World.block_lt_of_cell? w _ hx184_0)).trans hx184_0
                      have HR184_0 := Aside0.mk hi184_0
                      have HC184_0 := Aside0.mk hl184_0
                      clear hi184_0 hl184_0
                      replace p184 := eq_true p184
                      replace q184 := eq_true q184
                      go_wp2_with (first | (go_at_call 36; (with_reducible refine (downpourref20_instrs.calls k2 _ _ (rd_L2 l0_0 x26_2) _ _ (rd_L2 l1_0 x26_2) true _ ?side1 ?side2 ?side3 ?side4 A20.out).mono ?_); (case side1 => repeat (first | exact (Kd.C_below HR183_0.out HB.out) | (with_reducible refine Kd.C_alloc ?_ _) | (with_reducible refine Kd.C_drewN ?_ _) | (with_reducible refine Kd.C_drew ?_))); (case side2 => exact HC183_0.out); (case side3 => repeat (first | exact (Kd.C_below HR184_0.out HB.out) | (with_reducible refine Kd.C_alloc ?_ _) | (with_reducible refine Kd.C_drewN ?_ _) | (with_reducible refine Kd.C_drew ?_))); (case side4 => exact HC184_0.out); rintro e w' ⟨rfl, ⟨nd, rfl⟩⟩; (try first | exact ⟨rfl, _, World.drewN_drewN _ _ _⟩ | exact ⟨rfl, _, Eq.trans (World.drewN_drewN _ _ _) (congrArg (World.drewN _) (Nat.add_assoc _ _ _))⟩)))
                      repeat (go_quiet (first | (go_at_call 36; (with_reducible refine (downpourref20_instrs.calls k2 _ _ (rd_L2 l0_0 x26_2) _ _ (rd_L2 l1_0 x26_2) true _ ?side1 ?side2 ?side3 ?side4 A20.out).mono ?_); (case side1 => repeat (first | exact (Kd.C_below HR183_0.out HB.out) | (with_reducible refine Kd.C_alloc ?_ _) | (with_reducible refine Kd.C_drewN ?_ _) | (with_reducible refine Kd.C_drew ?_))); (case side2 => exact HC183_0.out); (case side3 => repeat (first | exact (Kd.C_below HR184_0.out HB.out) | (with_reducible refine Kd.C_alloc ?_ _) | (with_reducible refine Kd.C_drewN ?_ _) | (with_reducible refine Kd.C_drew ?_))); (case side4 => exact HC184_0.out); rintro e w' ⟨rfl, ⟨nd, rfl⟩⟩; (try first | exact ⟨rfl, _, World.drewN_drewN _ _ _⟩ | exact ⟨rfl, _, Eq.trans (World.drewN_drewN _ _ _) (congrArg (World.drewN _) (Nat.add_assoc _ _ _))⟩))); try go_wp2_with (first | (go_at_call 36; (with_reducible refine (downpourref20_instrs.calls k2 _ _ (rd_L2 l0_0 x26_2) _ _ (rd_L2 l1_0 x26_2) true _ ?side1 ?side2 ?side3 ?side4 A20.out).mono ?_); (case side1 => repeat (first | exact (Kd.C_below HR183_0.out HB.out) | (with_reducible refine Kd.C_alloc ?_ _) | (with_reducible refine Kd.C_drewN ?_ _) | (with_reducible refine Kd.C_drew ?_))); (case side2 => exact HC183_0.out); (case side3 => repeat (first | exact (Kd.C_below HR184_0.out HB.out) | (with_reducible refine Kd.C_alloc ?_ _) | (with_reducible refine Kd.C_drewN ?_ _) | (with_reducible refine Kd.C_drew ?_))); (case side4 => exact HC184_0.out); rintro e w' ⟨rfl, ⟨nd, rfl⟩⟩; (try first | exact ⟨rfl, _, World.drewN_drewN _ _ _⟩ | exact ⟨rfl, _, Eq.trans (World.drewN_drewN _ _ _) (congrArg (World.drewN _) (Nat.add_assoc _ _ _))⟩))))
                      go_roundg k2
                      case measure => have := HJ2.out; have := HK2.out; omega
                      case rel => exact ⟨(wrap64 (x26_2 + 1)), (by first | rfl | (simp; done) | (simp [*]; done)), H', ⟨by have := HJ2.out; have := HK2.out; omega⟩, ⟨by (with_reducible repeat (first | refine blk_drewN ?_ _ | refine blk_drew ?_ | refine blk_alloc ?_ _)); exact BK181.out⟩, ⟨by (with_reducible repeat (first | refine blk_drewN ?_ _ | refine blk_drew ?_ | refine blk_alloc ?_ _)); exact BK182.out⟩, ⟨by repeat (first | (with_reducible first | exact HB.out | apply below_alloc | apply pw_below_drewN | apply below_drew1 | refine below_set ?_ GE181.out | refine below_set ?_ GE182.out) | exact HB.out)⟩⟩
                    · replace c21 := Bool.eq_false_iff.mpr c21
                      subst c21
                      have H1 : (some false) = some r := by rw [if_neg (show ¬ (false = true) by decide)] at H; exact H
                      clear H
                      have H := H1
                      clear H1
                      obtain rfl := Option.some.inj H
                      have hnb25 := NB181_182.out
                      have hnc25 := NB182_181.out
                      have hcz26_0 : wr.cell? ⟨gb181, 0, none⟩ = some (.slice A0_0 l0_0.length c0_0) := (blk_cell BK181.out 0).trans rfl
                      have hcz26_1 : wr.cell? ⟨gb181, 1, none⟩ = some (.slice A0_1 l0_1.length c0_1) := (blk_cell BK181.out 1).trans rfl
                      have hcz26_2 : wr.cell? ⟨gb181, 2, none⟩ = some (.slice A0_2 l0_2.length c0_2) := (blk_cell BK181.out 2).trans rfl
                      have hcz26_3 : wr.cell? ⟨gb181, 3, none⟩ = some (.slice A0_3 l0_3.length c0_3) := (blk_cell BK181.out 3).trans rfl
                      have hcz26_4 : wr.cell? ⟨gb181, 4, none⟩ = some (.slice A0_4 l0_4.length c0_4) := (blk_cell BK181.out 4).trans rfl
                      have hcz26_5 : wr.cell? ⟨gb181, 5, none⟩ = some (.slice A0_5 l0_5.length c0_5) := (blk_cell BK181.out 5).trans rfl
                      have hfz26_0 := blk_frozen BK181.out 0
                      have hfz26_1 := blk_frozen BK181.out 1
                      have hfz26_2 := blk_frozen BK181.out 2
                      have hfz26_3 := blk_frozen BK181.out 3
                      have hfz26_4 := blk_frozen BK181.out 4
                      have hfz26_5 := blk_frozen BK181.out 5
                      have p183 : 0 ≤ (x26_2 : Int) := of_decide_eq_true (by first | (with_reducible assumption) | assumption)
                      have q183 : x26_2 < (l0_0.length : Int) := of_decide_eq_true (by first | (with_reducible assumption) | assumption)
                      obtain ⟨ad183, A183_0, c183_0, e183, hx183_0, hl183_0, hi183_0⟩ := at_L2 HR0_0.out x26_2 p183 q183
                      cases e183
                      replace hx183_0 := (HB.out.cell (World.block_lt_of_cell? w _ hx183_0)).trans hx183_0
                      have HR183_0 := Aside0.mk hi183_0
                      have HC183_0 := Aside0.mk hl183_0
                      clear hi183_0 hl183_0
                      replace p183 := eq_true p183
                      replace q183 := eq_true q183
                      have hcz27_0 : wr.cell? ⟨gb182, 0, none⟩ = some (.slice A1_0 l1_0.length c1_0) := (blk_cell BK182.out 0).trans rfl
                      have hcz27_1 : wr.cell? ⟨gb182, 1, none⟩ = some (.slice A1_1 l1_1.length c1_1) := (blk_cell BK182.out 1).trans rfl
                      have hcz27_2 : wr.cell? ⟨gb182, 2, none⟩ = some (.slice A1_2 l1_2.length c1_2) := (blk_cell BK182.out 2).trans rfl
                      have hcz27_3 : wr.cell? ⟨gb182, 3, none⟩ = some (.slice A1_3 l1_3.length c1_3) := (blk_cell BK182.out 3).trans rfl
                      have hcz27_4 : wr.cell? ⟨gb182, 4, none⟩ = some (.slice A1_4 l1_4.length c1_4) := (blk_cell BK182.out 4).trans rfl
                      have hcz27_5 : wr.cell? ⟨gb182, 5, none⟩ = some (.slice A1_5 l1_5.length c1_5) := (blk_cell BK182.out 5).trans rfl
                      have hfz27_0 := blk_frozen BK182.out 0
                      have hfz27_1 := blk_frozen BK182.out 1
                      have hfz27_2 := blk_frozen BK182.out 2
                      have hfz27_3 := blk_frozen BK182.out 3
                      have hfz27_4 := blk_frozen BK182.out 4
                      have hfz27_5 := blk_frozen BK182.out 5
                      have p184 : 0 ≤ (x26_2 : Int) := of_decide_eq_true (by first | (with_reducible assumption) | assumption)
                      have q184 : x26_2 < (l1_0.length : Int) := of_decide_eq_true (by first | (with_reducible assumption) | assumption)
                      obtain ⟨ad184, A184_0, c184_0, e184, hx184_0, hl184_0, hi184_0⟩ := at_L2 HR1_0.out x26_2 p184 q184
                      cases e184
                      replace hx184_0 := (HB.out.cell (World.block_lt_of_cell? w _ hx184_0)).trans hx184_0
                      have HR184_0 := Aside0.mk hi184_0
                      have HC184_0 := Aside0.mk hl184_0
                      clear hi184_0 hl184_0
                      replace p184 := eq_true p184
                      replace q184 := eq_true q184
                      go_wp2_with (first | (go_at_call 36; (with_reducible refine (downpourref20_instrs.calls k2 _ _ (rd_L2 l0_0 x26_2) _ _ (rd_L2 l1_0 x26_2) false _ ?side1 ?side2 ?side3 ?side4 A20.out).mono ?_); (case side1 => repeat (first | exact (Kd.C_below HR183_0.out HB.out) | (with_reducible refine Kd.C_alloc ?_ _) | (with_reducible refine Kd.C_drewN ?_ _) | (with_reducible refine Kd.C_drew ?_))); (case side2 => exact HC183_0.out); (case side3 => repeat (first | exact (Kd.C_below HR184_0.out HB.out) | (with_reducible refine Kd.C_alloc ?_ _) | (with_reducible refine Kd.C_drewN ?_ _) | (with_reducible refine Kd.C_drew ?_))); (case side4 => exact HC184_0.out); rintro e w' ⟨rfl, ⟨nd, rfl⟩⟩; (try first | exact ⟨rfl, _, World.drewN_drewN _ _ _⟩ | exact ⟨rfl, _, Eq.trans (World.drewN_drewN _ _ _) (congrArg (World.drewN _) (Nat.add_assoc _ _ _))⟩)))
                      repeat (go_quiet (first | (go_at_call 36; (with_reducible refine (downpourref20_instrs.calls k2 _ _ (rd_L2 l0_0 x26_2) _ _ (rd_L2 l1_0 x26_2) false _ ?side1 ?side2 ?side3 ?side4 A20.out).mono ?_); (case side1 => repeat (first | exact (Kd.C_below HR183_0.out HB.out) | (with_reducible refine Kd.C_alloc ?_ _) | (with_reducible refine Kd.C_drewN ?_ _) | (with_reducible refine Kd.C_drew ?_))); (case side2 => exact HC183_0.out); (case side3 => repeat (first | exact (Kd.C_below HR184_0.out HB.out) | (with_reducible refine Kd.C_alloc ?_ _) | (with_reducible refine Kd.C_drewN ?_ _) | (with_reducible refine Kd.C_drew ?_))); (case side4 => exact HC184_0.out); rintro e w' ⟨rfl, ⟨nd, rfl⟩⟩; (try first | exact ⟨rfl, _, World.drewN_drewN _ _ _⟩ | exact ⟨rfl, _, Eq.trans (World.drewN_drewN _ _ _) (congrArg (World.drewN _) (Nat.add_assoc _ _ _))⟩))); try go_wp2_with (first | (go_at_call 36; (with_reducible refine (downpourref20_instrs.calls k2 _ _ (rd_L2 l0_0 x26_2) _ _ (rd_L2 l1_0 x26_2) false _ ?side1 ?side2 ?side3 ?side4 A20.out).mono ?_); (case side1 => repeat (first | exact (Kd.C_below HR183_0.out HB.out) | (with_reducible refine Kd.C_alloc ?_ _) | (with_reducible refine Kd.C_drewN ?_ _) | (with_reducible refine Kd.C_drew ?_))); (case side2 => exact HC183_0.out); (case side3 => repeat (first | exact (Kd.C_below HR184_0.out HB.out) | (with_reducible refine Kd.C_alloc ?_ _) | (with_reducible refine Kd.C_drewN ?_ _) | (with_reducible refine Kd.C_drew ?_))); (case side4 => exact HC184_0.out); rintro e w' ⟨rfl, ⟨nd, rfl⟩⟩; (try first | exact ⟨rfl, _, World.drewN_drewN _ _ _⟩ | exact ⟨rfl, _, Eq.trans (World.drewN_drewN _ _ _) (congrArg (World.drewN _) (Nat.add_assoc _ _ _))⟩))))
                      go_ret
                      exact ⟨by first | rfl | (simp [errW_none, errW_some] <;> rfl) | (simp [*, errW_none, errW_some] <;> rfl), by repeat (first | (with_reducible first | exact HB.out | apply below_alloc | apply pw_below_drewN | apply below_drew1 | refine below_set ?_ GE181.out | refine below_set ?_ GE182.out) | exact HB.out)⟩
                  · rw [if_neg c19] at H
                    exact absurd H (by simp)
                · rw [if_neg c18] at H
                  exact absurd H (by simp)
              · rw [if_neg c17] at H
                exact absurd H (by simp)
            · rw [if_neg c16] at H
              have c16b0 : decide (x26_2 < (l0_0.length : Int)) = false := decide_eq_false c16
              clear c16
              have H' := Aside0.mk H
              clear H
              have hnb28 := NB181_182.out
              have hnc28 := NB182_181.out
              have hcz29_0 : wr.cell? ⟨gb181, 0, none⟩ = some (.slice A0_0 l0_0.length c0_0) := (blk_cell BK181.out 0).trans rfl
              have hcz29_1 : wr.cell? ⟨gb181, 1, none⟩ = some (.slice A0_1 l0_1.length c0_1) := (blk_cell BK181.out 1).trans rfl
              have hcz29_2 : wr.cell? ⟨gb181, 2, none⟩ = some (.slice A0_2 l0_2.length c0_2) := (blk_cell BK181.out 2).trans rfl
              have hcz29_3 : wr.cell? ⟨gb181, 3, none⟩ = some (.slice A0_3 l0_3.length c0_3) := (blk_cell BK181.out 3).trans rfl
              have hcz29_4 : wr.cell? ⟨gb181, 4, none⟩ = some (.slice A0_4 l0_4.length c0_4) := (blk_cell BK181.out 4).trans rfl
              have hcz29_5 : wr.cell? ⟨gb181, 5, none⟩ = some (.slice A0_5 l0_5.length c0_5) := (blk_cell BK181.out 5).trans rfl
              have hfz29_0 := blk_frozen BK181.out 0
              have hfz29_1 := blk_frozen BK181.out 1
              have hfz29_2 := blk_frozen BK181.out 2
              have hfz29_3 := blk_frozen BK181.out 3
              have hfz29_4 := blk_frozen BK181.out 4
              have hfz29_5 := blk_frozen BK181.out 5
              go_wp2
              repeat (go_quiet (fail); try go_wp2)
              go_loopg [45] k2 (fun kq v45 w' => ∃ (x45_3 : Int), v45 = .int .i64 x45_3 ∧ Aside0 (downpourref20_Same.l1 kq (l0_5.length : Int) x45_3 l0_0 l0_1 l0_2 l0_3 l0_4 l0_5 l1_0 l1_1 l1_2 l1_3 l1_4 l1_5 = some r) ∧ Aside0 (kq ≤ k2) ∧ Aside0 (w'.heap[gb181]? = some (.cells #[(.slice A0_0 l0_0.length c0_0), (.slice A0_1 l0_1.length c0_1), (.slice A0_2 l0_2.length c0_2), (.slice A0_3 l0_3.length c0_3), (.slice A0_4 l0_4.length c0_4), (.slice A0_5 l0_5.length c0_5)] 26 (0, 0))) ∧ Aside0 (w'.heap[gb182]? = some (.cells #[(.slice A1_0 l1_0.length c1_0), (.slice A1_1 l1_1.length c1_1), (.slice A1_2 l1_2.length c1_2), (.slice A1_3 l1_3.length c1_3), (.slice A1_4 l1_4.length c1_4), (.slice A1_5 l1_5.length c1_5)] 26 (0, 0))) ∧ Aside0 (Below w.heap.size w w'))
              case atStart => exact ⟨(0), (by first | rfl | (simp; done) | (simp [*]; done)), H', ⟨Nat.le_refl _⟩, ⟨by (with_reducible repeat (first | refine blk_drewN ?_ _ | refine blk_drew ?_ | refine blk_alloc ?_ _)); exact BK181.out⟩, ⟨by (with_reducible repeat (first | refine blk_drewN ?_ _ | refine blk_drew ?_ | refine blk_alloc ?_ _)); exact BK182.out⟩, ⟨by repeat (first | (with_reducible first | exact HB.out | apply below_alloc | apply pw_below_drewN | apply below_drew1 | refine below_set ?_ GE181.out | refine below_set ?_ GE182.out) | exact HB.out)⟩⟩
              case round =>
                clear H'
                try clear c1
                try clear p1
                try clear q1
                try clear hx1
                try clear c2
                try clear p2
                try clear c6
                try clear c6b0
                try clear c6b1
                try clear c6b2
                try clear p6
                try clear c7
                try clear c10
                try clear c12
                try clear c13
                try clear c14
                try clear c16
                try clear c16b0
                try clear c17
                try clear c17b0
                try clear c18
                try clear c18b0
                try clear p18
                try clear q18
                try clear hx18
                try clear c19
                try clear c19b0
                try clear c21
                try clear c22
                try clear c25
                try clear c28
                try clear hcz11_0
                try clear hcz11_1
                try clear hcz11_2
                try clear hcz11_3
                try clear hcz11_4
                try clear hcz11_5
                try clear hcz12_0
                try clear hcz12_1
                try clear hcz12_2
                try clear hcz12_3
                try clear hcz12_4
                try clear hcz12_5
                try clear hcz15_0
                try clear hcz15_1
                try clear hcz15_2
                try clear hcz15_3
                try clear hcz15_4
                try clear hcz15_5
                try clear hcz23_0
                try clear hcz23_1
                try clear hcz23_2
                try clear hcz23_3
                try clear hcz23_4
                try clear hcz23_5
                try clear hcz24_0
                try clear hcz24_1
                try clear hcz24_2
                try clear hcz24_3
                try clear hcz24_4
                try clear hcz24_5
                try clear hcz26_0
                try clear hcz26_1
                try clear hcz26_2
                try clear hcz26_3
                try clear hcz26_4
                try clear hcz26_5
                try clear hcz27_0
                try clear hcz27_1
                try clear hcz27_2
                try clear hcz27_3
                try clear hcz27_4
                try clear hcz27_5
                try clear hcz29_0
                try clear hcz29_1
                try clear hcz29_2
                try clear hcz29_3
                try clear hcz29_4
                try clear hcz29_5
                try clear hcz8_0
                try clear hcz8_1
                try clear hcz8_2
                try clear hcz8_3
                try clear hcz8_4
                try clear hcz8_5
                try clear hcz9_0
                try clear hcz9_1
                try clear hcz9_2
                try clear hcz9_3
                try clear hcz9_4
                try clear hcz9_5
                try clear hfz11_0
                try clear hfz11_1
                try clear hfz11_2
                try clear hfz11_3
                try clear hfz11_4
                try clear hfz11_5
                try clear hfz12_0
                try clear hfz12_1
                try clear hfz12_2
                try clear hfz12_3
                try clear hfz12_4
                try clear hfz12_5
                try clear hfz15_0
                try clear hfz15_1
                try clear hfz15_2
                try clear hfz15_3
                try clear hfz15_4
                try clear hfz15_5
                try clear hfz23_0
                try clear hfz23_1
                try clear hfz23_2
                try clear hfz23_3
                try clear hfz23_4
                try clear hfz23_5
                try clear hfz24_0
                try clear hfz24_1
                try clear hfz24_2
                try clear hfz24_3
                try clear hfz24_4
                try clear hfz24_5
                try clear hfz26_0
                try clear hfz26_1
                try clear hfz26_2
                try clear hfz26_3
                try clear hfz26_4
                try clear hfz26_5
                try clear hfz27_0
                try clear hfz27_1
                try clear hfz27_2
                try clear hfz27_3
                try clear hfz27_4
                try clear hfz27_5
                try clear hfz29_0
                try clear hfz29_1
                try clear hfz29_2
                try clear hfz29_3
                try clear hfz29_4
                try clear hfz29_5
                try clear hfz8_0
                try clear hfz8_1
                try clear hfz8_2
                try clear hfz8_3
                try clear hfz8_4
                try clear hfz8_5
                try clear hfz9_0
                try clear hfz9_1
                try clear hfz9_2
                try clear hfz9_3
                try clear hfz9_4
                try clear hfz9_5
                try clear hx183_0
                try clear hx184_0
                try clear p183
                try clear p184
                try clear p2
                try clear q183
                try clear q184
                obtain ⟨x45_3, rfl, HA, HK3, BK181, BK182, HB⟩ := hrel
                cases gk with
                | zero => exact absurd HA.out (by simp [downpourref20_Same.l1])
                | succ k3 =>
                  have H := HA.out
                  clear HA
                  simp only [downpourref20_Same.l1] at H
                  by_cases c30 : x45_3 < (l0_5.length : Int)
                  · rw [if_pos c30] at H
                    have c30b0 : decide (x45_3 < (l0_5.length : Int)) = true := decide_eq_true c30
                    clear c30
                    by_cases c31 : 0 ≤ x45_3
                    · rw [if_pos c31] at H
                      have c31b0 : decide (0 ≤ x45_3) = true := decide_eq_true c31
                      clear c31
                      by_cases c32 : x45_3 < (l0_5.length : Int)
                      · rw [if_pos c32] at H
                        have c32b0 : decide (x45_3 < (l0_5.length : Int)) = true := decide_eq_true c32
                        clear c32
                        by_cases c33 : x45_3 < (l1_5.length : Int)
                        · rw [if_pos c33] at H
                          have c33b0 : decide (x45_3 < (l1_5.length : Int)) = true := decide_eq_true c33
                          clear c33
                          replace H := Option.bind_eq_some_iff.mp H
                          obtain ⟨t188, A340, H⟩ := H
                          replace H : (if t188 = true then (downpourref20_Same.l1 k3 (l0_5.length : Int) (wrap64 (x45_3 + 1)) l0_0 l0_1 l0_2 l0_3 l0_4 l0_5 l1_0 l1_1 l1_2 l1_3 l1_4 l1_5) else (some false)) = some r := H
                          have A34 := Aside0.mk A340
                          clear A340
                          by_cases c35 : t188 = true
                          · subst c35
                            have H1 : (downpourref20_Same.l1 k3 (l0_5.length : Int) (wrap64 (x45_3 + 1)) l0_0 l0_1 l0_2 l0_3 l0_4 l0_5 l1_0 l1_1 l1_2 l1_3 l1_4 l1_5) = some r := by rw [if_pos rfl] at H; exact H
                            clear H
                            have H := H1
                            clear H1
                            have H' := Aside0.mk H
                            clear H
                            have hnb36 := NB181_182.out
                            have hnc36 := NB182_181.out
                            have hcz37_0 : wr.cell? ⟨gb181, 0, none⟩ = some (.slice A0_0 l0_0.length c0_0) := (blk_cell BK181.out 0).trans rfl
                            have hcz37_1 : wr.cell? ⟨gb181, 1, none⟩ = some (.slice A0_1 l0_1.length c0_1) := (blk_cell BK181.out 1).trans rfl
                            have hcz37_2 : wr.cell? ⟨gb181, 2, none⟩ = some (.slice A0_2 l0_2.length c0_2) := (blk_cell BK181.out 2).trans rfl
                            have hcz37_3 : wr.cell? ⟨gb181, 3, none⟩ = some (.slice A0_3 l0_3.length c0_3) := (blk_cell BK181.out 3).trans rfl
                            have hcz37_4 : wr.cell? ⟨gb181, 4, none⟩ = some (.slice A0_4 l0_4.length c0_4) := (blk_cell BK181.out 4).trans rfl
                            have hcz37_5 : wr.cell? ⟨gb181, 5, none⟩ = some (.slice A0_5 l0_5.length c0_5) := (blk_cell BK181.out 5).trans rfl
                            have hfz37_0 := blk_frozen BK181.out 0
                            have hfz37_1 := blk_frozen BK181.out 1
                            have hfz37_2 := blk_frozen BK181.out 2
                            have hfz37_3 := blk_frozen BK181.out 3
                            have hfz37_4 := blk_frozen BK181.out 4
                            have hfz37_5 := blk_frozen BK181.out 5
                            have p186 : 0 ≤ (x45_3 : Int) := of_decide_eq_true (by first | (with_reducible assumption) | assumption)
                            have q186 : x45_3 < (l0_5.length : Int) := of_decide_eq_true (by first | (with_reducible assumption) | assumption)
                            obtain ⟨ad186, A186_0, c186_0, e186, hx186_0, hl186_0, hi186_0⟩ := at_L3 HR0_5.out x45_3 p186 q186
                            cases e186
                            replace hx186_0 := (HB.out.cell (World.block_lt_of_cell? w _ hx186_0)).trans hx186_0
                            have HR186_0 := Aside0.mk hi186_0
                            have HC186_0 := Aside0.mk hl186_0
                            clear hi186_0 hl186_0
                            replace p186 := eq_true p186
                            replace q186 := eq_true q186
                            have hcz38_0 : wr.cell? ⟨gb182, 0, none⟩ = some (.slice A1_0 l1_0.length c1_0) := (blk_cell BK182.out 0).trans rfl
                            have hcz38_1 : wr.cell? ⟨gb182, 1, none⟩ = some (.slice A1_1 l1_1.length c1_1) := (blk_cell BK182.out 1).trans rfl
                            have hcz38_2 : wr.cell? ⟨gb182, 2, none⟩ = some (.slice A1_2 l1_2.length c1_2) := (blk_cell BK182.out 2).trans rfl
                            have hcz38_3 : wr.cell? ⟨gb182, 3, none⟩ = some (.slice A1_3 l1_3.length c1_3) := (blk_cell BK182.out 3).trans rfl
                            have hcz38_4 : wr.cell? ⟨gb182, 4, none⟩ = some (.slice A1_4 l1_4.length c1_4) := (blk_cell BK182.out 4).trans rfl
                            have hcz38_5 : wr.cell? ⟨gb182, 5, none⟩ = some (.slice A1_5 l1_5.length c1_5) := (blk_cell BK182.out 5).trans rfl
                            have hfz38_0 := blk_frozen BK182.out 0
                            have hfz38_1 := blk_frozen BK182.out 1
                            have hfz38_2 := blk_frozen BK182.out 2
                            have hfz38_3 := blk_frozen BK182.out 3
                            have hfz38_4 := blk_frozen BK182.out 4
                            have hfz38_5 := blk_frozen BK182.out 5
                            have p187 : 0 ≤ (x45_3 : Int) := of_decide_eq_true (by first | (with_reducible assumption) | assumption)
                            have q187 : x45_3 < (l1_5.length : Int) := of_decide_eq_true (by first | (with_reducible assumption) | assumption)
                            obtain ⟨ad187, A187_0, c187_0, e187, hx187_0, hl187_0, hi187_0⟩ := at_L3 HR1_5.out x45_3 p187 q187
                            cases e187
                            replace hx187_0 := (HB.out.cell (World.block_lt_of_cell? w _ hx187_0)).trans hx187_0
                            have HR187_0 := Aside0.mk hi187_0
                            have HC187_0 := Aside0.mk hl187_0
                            clear hi187_0 hl187_0
                            replace p187 := eq_true p187
                            replace q187 := eq_true q187
                            go_wp2_with (first | (go_at_call 14; (with_reducible refine (downpourref01_Numbers.calls k3 _ _ (rd_L3 l0_5 x45_3) _ _ (rd_L3 l1_5 x45_3) true _ ?side1 ?side2 ?side3 ?side4 A34.out).mono ?_); (case side1 => repeat (first | exact (Kd.C_below HR186_0.out HB.out) | (with_reducible refine Kd.C_alloc ?_ _) | (with_reducible refine Kd.C_drewN ?_ _) | (with_reducible refine Kd.C_drew ?_))); (case side2 => exact HC186_0.out); (case side3 => repeat (first | exact (Kd.C_below HR187_0.out HB.out) | (with_reducible refine Kd.C_alloc ?_ _) | (with_reducible refine Kd.C_drewN ?_ _) | (with_reducible refine Kd.C_drew ?_))); (case side4 => exact HC187_0.out); rintro e w' ⟨rfl, ⟨nd, rfl⟩⟩; (try first | exact ⟨rfl, _, World.drewN_drewN _ _ _⟩ | exact ⟨rfl, _, Eq.trans (World.drewN_drewN _ _ _) (congrArg (World.drewN _) (Nat.add_assoc _ _ _))⟩)))
                            repeat (go_quiet (first | (go_at_call 14; (with_reducible refine (downpourref01_Numbers.calls k3 _ _ (rd_L3 l0_5 x45_3) _ _ (rd_L3 l1_5 x45_3) true _ ?side1 ?side2 ?side3 ?side4 A34.out).mono ?_); (case side1 => repeat (first | exact (Kd.C_below HR186_0.out HB.out) | (with_reducible refine Kd.C_alloc ?_ _) | (with_reducible refine Kd.C_drewN ?_ _) | (with_reducible refine Kd.C_drew ?_))); (case side2 => exact HC186_0.out); (case side3 => repeat (first | exact (Kd.C_below HR187_0.out HB.out) | (with_reducible refine Kd.C_alloc ?_ _) | (with_reducible refine Kd.C_drewN ?_ _) | (with_reducible refine Kd.C_drew ?_))); (case side4 => exact HC187_0.out); rintro e w' ⟨rfl, ⟨nd, rfl⟩⟩; (try first | exact ⟨rfl, _, World.drewN_drewN _ _ _⟩ | exact ⟨rfl, _, Eq.trans (World.drewN_drewN _ _ _) (congrArg (World.drewN _) (Nat.add_assoc _ _ _))⟩))); try go_wp2_with (first | (go_at_call 14; (with_reducible refine (downpourref01_Numbers.calls k3 _ _ (rd_L3 l0_5 x45_3) _ _ (rd_L3 l1_5 x45_3) true _ ?side1 ?side2 ?side3 ?side4 A34.out).mono ?_); (case side1 => repeat (first | exact (Kd.C_below HR186_0.out HB.out) | (with_reducible refine Kd.C_alloc ?_ _) | (with_reducible refine Kd.C_drewN ?_ _) | (with_reducible refine Kd.C_drew ?_))); (case side2 => exact HC186_0.out); (case side3 => repeat (first | exact (Kd.C_below HR187_0.out HB.out) | (with_reducible refine Kd.C_alloc ?_ _) | (with_reducible refine Kd.C_drewN ?_ _) | (with_reducible refine Kd.C_drew ?_))); (case side4 => exact HC187_0.out); rintro e w' ⟨rfl, ⟨nd, rfl⟩⟩; (try first | exact ⟨rfl, _, World.drewN_drewN _ _ _⟩ | exact ⟨rfl, _, Eq.trans (World.drewN_drewN _ _ _) (congrArg (World.drewN _) (Nat.add_assoc _ _ _))⟩))))
                            go_roundg k3
                            case measure => have := HJ2.out; have := HK2.out; have := HK3.out; omega
                            case rel => exact ⟨(wrap64 (x45_3 + 1)), (by first | rfl | (simp; done) | (simp [*]; done)), H', ⟨by have := HJ2.out; have := HK2.out; have := HK3.out; omega⟩, ⟨by (with_reducible repeat (first | refine blk_drewN ?_ _ | refine blk_drew ?_ | refine blk_alloc ?_ _)); exact BK181.out⟩, ⟨by (with_reducible repeat (first | refine blk_drewN ?_ _ | refine blk_drew ?_ | refine blk_alloc ?_ _)); exact BK182.out⟩, ⟨by repeat (first | (with_reducible first | exact HB.out | apply below_alloc | apply pw_below_drewN | apply below_drew1 | refine below_set ?_ GE181.out | refine below_set ?_ GE182.out) | exact HB.out)⟩⟩
                          · replace c35 := Bool.eq_false_iff.mpr c35
                            subst c35
                            have H1 : (some false) = some r := by rw [if_neg (show ¬ (false = true) by decide)] at H; exact H
                            clear H
                            have H := H1
                            clear H1
                            obtain rfl := Option.some.inj H
                            have hnb39 := NB181_182.out
                            have hnc39 := NB182_181.out
                            have hcz40_0 : wr.cell? ⟨gb181, 0, none⟩ = some (.slice A0_0 l0_0.length c0_0) := (blk_cell BK181.out 0).trans rfl
                            have hcz40_1 : wr.cell? ⟨gb181, 1, none⟩ = some (.slice A0_1 l0_1.length c0_1) := (blk_cell BK181.out 1).trans rfl
                            have hcz40_2 : wr.cell? ⟨gb181, 2, none⟩ = some (.slice A0_2 l0_2.length c0_2) := (blk_cell BK181.out 2).trans rfl
                            have hcz40_3 : wr.cell? ⟨gb181, 3, none⟩ = some (.slice A0_3 l0_3.length c0_3) := (blk_cell BK181.out 3).trans rfl
                            have hcz40_4 : wr.cell? ⟨gb181, 4, none⟩ = some (.slice A0_4 l0_4.length c0_4) := (blk_cell BK181.out 4).trans rfl
                            have hcz40_5 : wr.cell? ⟨gb181, 5, none⟩ = some (.slice A0_5 l0_5.length c0_5) := (blk_cell BK181.out 5).trans rfl
                            have hfz40_0 := blk_frozen BK181.out 0
                            have hfz40_1 := blk_frozen BK181.out 1
                            have hfz40_2 := blk_frozen BK181.out 2
                            have hfz40_3 := blk_frozen BK181.out 3
                            have hfz40_4 := blk_frozen BK181.out 4
                            have hfz40_5 := blk_frozen BK181.out 5
                            have p186 : 0 ≤ (x45_3 : Int) := of_decide_eq_true (by first | (with_reducible assumption) | assumption)
                            have q186 : x45_3 < (l0_5.length : Int) := of_decide_eq_true (by first | (with_reducible assumption) | assumption)
                            obtain ⟨ad186, A186_0, c186_0, e186, hx186_0, hl186_0, hi186_0⟩ := at_L3 HR0_5.out x45_3 p186 q186
                            cases e186
                            replace hx186_0 := (HB.out.cell (World.block_lt_of_cell? w _ hx186_0)).trans hx186_0
                            have HR186_0 := Aside0.mk hi186_0
                            have HC186_0 := Aside0.mk hl186_0
                            clear hi186_0 hl186_0
                            replace p186 := eq_true p186
                            replace q186 := eq_true q186
                            have hcz41_0 : wr.cell? ⟨gb182, 0, none⟩ = some (.slice A1_0 l1_0.length c1_0) := (blk_cell BK182.out 0).trans rfl
                            have hcz41_1 : wr.cell? ⟨gb182, 1, none⟩ = some (.slice A1_1 l1_1.length c1_1) := (blk_cell BK182.out 1).trans rfl
                            have hcz41_2 : wr.cell? ⟨gb182, 2, none⟩ = some (.slice A1_2 l1_2.length c1_2) := (blk_cell BK182.out 2).trans rfl
                            have hcz41_3 : wr.cell? ⟨gb182, 3, none⟩ = some (.slice A1_3 l1_3.length c1_3) := (blk_cell BK182.out 3).trans rfl
                            have hcz41_4 : wr.cell? ⟨gb182, 4, none⟩ = some (.slice A1_4 l1_4.length c1_4) := (blk_cell BK182.out 4).trans rfl
                            have hcz41_5 : wr.cell? ⟨gb182, 5, none⟩ = some (.slice A1_5 l1_5.length c1_5) := (blk_cell BK182.out 5).trans rfl
                            have hfz41_0 := blk_frozen BK182.out 0
                            have hfz41_1 := blk_frozen BK182.out 1
                            have hfz41_2 := blk_frozen BK182.out 2
                            have hfz41_3 := blk_frozen BK182.out 3
                            have hfz41_4 := blk_frozen BK182.out 4
                            have hfz41_5 := blk_frozen BK182.out 5
                            have p187 : 0 ≤ (x45_3 : Int) := of_decide_eq_true (by first | (with_reducible assumption) | assumption)
                            have q187 : x45_3 < (l1_5.length : Int) := of_decide_eq_true (by first | (with_reducible assumption) | assumption)
                            obtain ⟨ad187, A187_0, c187_0, e187, hx187_0, hl187_0, hi187_0⟩ := at_L3 HR1_5.out x45_3 p187 q187
                            cases e187
                            replace hx187_0 := (HB.out.cell (World.block_lt_of_cell? w _ hx187_0)).trans hx187_0
                            have HR187_0 := Aside0.mk hi187_0
                            have HC187_0 := Aside0.mk hl187_0
                            clear hi187_0 hl187_0
                            replace p187 := eq_true p187
                            replace q187 := eq_true q187
                            go_wp2_with (first | (go_at_call 14; (with_reducible refine (downpourref01_Numbers.calls k3 _ _ (rd_L3 l0_5 x45_3) _ _ (rd_L3 l1_5 x45_3) false _ ?side1 ?side2 ?side3 ?side4 A34.out).mono ?_); (case side1 => repeat (first | exact (Kd.C_below HR186_0.out HB.out) | (with_reducible refine Kd.C_alloc ?_ _) | (with_reducible refine Kd.C_drewN ?_ _) | (with_reducible refine Kd.C_drew ?_))); (case side2 => exact HC186_0.out); (case side3 => repeat (first | exact (Kd.C_below HR187_0.out HB.out) | (with_reducible refine Kd.C_alloc ?_ _) | (with_reducible refine Kd.C_drewN ?_ _) | (with_reducible refine Kd.C_drew ?_))); (case side4 => exact HC187_0.out); rintro e w' ⟨rfl, ⟨nd, rfl⟩⟩; (try first | exact ⟨rfl, _, World.drewN_drewN _ _ _⟩ | exact ⟨rfl, _, Eq.trans (World.drewN_drewN _ _ _) (congrArg (World.drewN _) (Nat.add_assoc _ _ _))⟩)))
                            repeat (go_quiet (first | (go_at_call 14; (with_reducible refine (downpourref01_Numbers.calls k3 _ _ (rd_L3 l0_5 x45_3) _ _ (rd_L3 l1_5 x45_3) false _ ?side1 ?side2 ?side3 ?side4 A34.out).mono ?_); (case side1 => repeat (first | exact (Kd.C_below HR186_0.out HB.out) | (with_reducible refine Kd.C_alloc ?_ _) | (with_reducible refine Kd.C_drewN ?_ _) | (with_reducible refine Kd.C_drew ?_))); (case side2 => exact HC186_0.out); (case side3 => repeat (first | exact (Kd.C_below HR187_0.out HB.out) | (with_reducible refine Kd.C_alloc ?_ _) | (with_reducible refine Kd.C_drewN ?_ _) | (with_reducible refine Kd.C_drew ?_))); (case side4 => exact HC187_0.out); rintro e w' ⟨rfl, ⟨nd, rfl⟩⟩; (try first | exact ⟨rfl, _, World.drewN_drewN _ _ _⟩ | exact ⟨rfl, _, Eq.trans (World.drewN_drewN _ _ _) (congrArg (World.drewN _) (Nat.add_assoc _ _ _))⟩))); try go_wp2_with (first | (go_at_call 14; (with_reducible refine (downpourref01_Numbers.calls k3 _ _ (rd_L3 l0_5 x45_3) _ _ (rd_L3 l1_5 x45_3) false _ ?side1 ?side2 ?side3 ?side4 A34.out).mono ?_); (case side1 => repeat (first | exact (Kd.C_below HR186_0.out HB.out) | (with_reducible refine Kd.C_alloc ?_ _) | (with_reducible refine Kd.C_drewN ?_ _) | (with_reducible refine Kd.C_drew ?_))); (case side2 => exact HC186_0.out); (case side3 => repeat (first | exact (Kd.C_below HR187_0.out HB.out) | (with_reducible refine Kd.C_alloc ?_ _) | (with_reducible refine Kd.C_drewN ?_ _) | (with_reducible refine Kd.C_drew ?_))); (case side4 => exact HC187_0.out); rintro e w' ⟨rfl, ⟨nd, rfl⟩⟩; (try first | exact ⟨rfl, _, World.drewN_drewN _ _ _⟩ | exact ⟨rfl, _, Eq.trans (World.drewN_drewN _ _ _) (congrArg (World.drewN _) (Nat.add_assoc _ _ _))⟩))))
                            go_ret
                            exact ⟨by first | rfl | (simp [errW_none, errW_some] <;> rfl) | (simp [*, errW_none, errW_some] <;> rfl), by repeat (first | (with_reducible first | exact HB.out | apply below_alloc | apply pw_below_drewN | apply below_drew1 | refine below_set ?_ GE181.out | refine below_set ?_ GE182.out) | exact HB.out)⟩
                        · rw [if_neg c33] at H
                          exact absurd H (by simp)
                      · rw [if_neg c32] at H
                        exact absurd H (by simp)
                    · rw [if_neg c31] at H
                      exact absurd H (by simp)
                  · rw [if_neg c30] at H
                    have c30b0 : decide (x45_3 < (l0_5.length : Int)) = false := decide_eq_false c30
                    clear c30
                    replace H := Option.bind_eq_some_iff.mp H
                    obtain ⟨t189, A420, H⟩ := H
                    replace H : (if t189 = true then ((downpourref01_Numbers.f k3 l0_2 l1_2).bind fun t190 => (if t190 = true then ((downpourref01_Numbers.f k3 l0_3 l1_3).bind fun t191 => (if t191 = true then ((downpourref01_Numbers.f k3 l0_4 l1_4).bind fun t192 => (some t192)) else (some false))) else (some false))) else (some false)) = some r := H
                    have A42 := Aside0.mk A420
                    clear A420
                    by_cases c43 : t189 = true
                    · subst c43
                      have H1 : ((downpourref01_Numbers.f k3 l0_2 l1_2).bind fun t190 => (if t190 = true then ((downpourref01_Numbers.f k3 l0_3 l1_3).bind fun t191 => (if t191 = true then ((downpourref01_Numbers.f k3 l0_4 l1_4).bind fun t192 => (some t192)) else (some false))) else (some false))) = some r := by rw [if_pos rfl] at H; exact H
                      clear H
                      have H := H1
                      clear H1
                      replace H := Option.bind_eq_some_iff.mp H
                      obtain ⟨t190, A440, H⟩ := H
                      replace H : (if t190 = true then ((downpourref01_Numbers.f k3 l0_3 l1_3).bind fun t191 => (if t191 = true then ((downpourref01_Numbers.f k3 l0_4 l1_4).bind fun t192 => (some t192)) else (some false))) else (some false)) = some r := H
                      have A44 := Aside0.mk A440
                      clear A440
                      by_cases c45 : t190 = true
                      · subst c45
                        have H1 : ((downpourref01_Numbers.f k3 l0_3 l1_3).bind fun t191 => (if t191 = true then ((downpourref01_Numbers.f k3 l0_4 l1_4).bind fun t192 => (some t192)) else (some false))) = some r := by rw [if_pos rfl] at H; exact H
                        clear H
                        have H := H1
                        clear H1
                        replace H := Option.bind_eq_some_iff.mp H
                        obtain ⟨t191, A460, H⟩ := H
                        replace H : (if t191 = true then ((downpourref01_Numbers.f k3 l0_4 l1_4).bind fun t192 => (some t192)) else (some false)) = some r := H
                        have A46 := Aside0.mk A460
                        clear A460
                        by_cases c47 : t191 = true
                        · subst c47
                          have H1 : ((downpourref01_Numbers.f k3 l0_4 l1_4).bind fun t192 => (some t192)) = some r := by rw [if_pos rfl] at H; exact H
                          clear H
                          have H := H1
                          clear H1
                          replace H := Option.bind_eq_some_iff.mp H
                          obtain ⟨t192, A480, H⟩ := H
                          replace H : (some t192) = some r := H
                          have A48 := Aside0.mk A480
                          clear A480
                          obtain rfl := Option.some.inj H
                          have hnb49 := NB181_182.out
                          have hnc49 := NB182_181.out
                          have hcz50_0 : wr.cell? ⟨gb181, 0, none⟩ = some (.slice A0_0 l0_0.length c0_0) := (blk_cell BK181.out 0).trans rfl
                          have hcz50_1 : wr.cell? ⟨gb181, 1, none⟩ = some (.slice A0_1 l0_1.length c0_1) := (blk_cell BK181.out 1).trans rfl
                          have hcz50_2 : wr.cell? ⟨gb181, 2, none⟩ = some (.slice A0_2 l0_2.length c0_2) := (blk_cell BK181.out 2).trans rfl
                          have hcz50_3 : wr.cell? ⟨gb181, 3, none⟩ = some (.slice A0_3 l0_3.length c0_3) := (blk_cell BK181.out 3).trans rfl
                          have hcz50_4 : wr.cell? ⟨gb181, 4, none⟩ = some (.slice A0_4 l0_4.length c0_4) := (blk_cell BK181.out 4).trans rfl
                          have hcz50_5 : wr.cell? ⟨gb181, 5, none⟩ = some (.slice A0_5 l0_5.length c0_5) := (blk_cell BK181.out 5).trans rfl
                          have hfz50_0 := blk_frozen BK181.out 0
                          have hfz50_1 := blk_frozen BK181.out 1
                          have hfz50_2 := blk_frozen BK181.out 2
                          have hfz50_3 := blk_frozen BK181.out 3
                          have hfz50_4 := blk_frozen BK181.out 4
                          have hfz50_5 := blk_frozen BK181.out 5
                          have hcz51_0 : wr.cell? ⟨gb182, 0, none⟩ = some (.slice A1_0 l1_0.length c1_0) := (blk_cell BK182.out 0).trans rfl
                          have hcz51_1 : wr.cell? ⟨gb182, 1, none⟩ = some (.slice A1_1 l1_1.length c1_1) := (blk_cell BK182.out 1).trans rfl
                          have hcz51_2 : wr.cell? ⟨gb182, 2, none⟩ = some (.slice A1_2 l1_2.length c1_2) := (blk_cell BK182.out 2).trans rfl
                          have hcz51_3 : wr.cell? ⟨gb182, 3, none⟩ = some (.slice A1_3 l1_3.length c1_3) := (blk_cell BK182.out 3).trans rfl
                          have hcz51_4 : wr.cell? ⟨gb182, 4, none⟩ = some (.slice A1_4 l1_4.length c1_4) := (blk_cell BK182.out 4).trans rfl
                          have hcz51_5 : wr.cell? ⟨gb182, 5, none⟩ = some (.slice A1_5 l1_5.length c1_5) := (blk_cell BK182.out 5).trans rfl
                          have hfz51_0 := blk_frozen BK182.out 0
                          have hfz51_1 := blk_frozen BK182.out 1
                          have hfz51_2 := blk_frozen BK182.out 2
                          have hfz51_3 := blk_frozen BK182.out 3
                          have hfz51_4 := blk_frozen BK182.out 4
                          have hfz51_5 := blk_frozen BK182.out 5
                          go_wp2_with (first | (go_at_call 14; (with_reducible refine (downpourref01_Numbers.calls k3 _ _ l0_1 _ _ l1_1 true _ ?side1 ?side2 ?side3 ?side4 A42.out).mono ?_); (case side1 => repeat (first | exact (Kd.C_below HR0_1.out HB.out) | (with_reducible refine Kd.C_alloc ?_ _) | (with_reducible refine Kd.C_drewN ?_ _) | (with_reducible refine Kd.C_drew ?_))); (case side2 => exact HC0_1.out); (case side3 => repeat (first | exact (Kd.C_below HR1_1.out HB.out) | (with_reducible refine Kd.C_alloc ?_ _) | (with_reducible refine Kd.C_drewN ?_ _) | (with_reducible refine Kd.C_drew ?_))); (case side4 => exact HC1_1.out); rintro e w' ⟨rfl, ⟨nd, rfl⟩⟩; (try first | exact ⟨rfl, _, World.drewN_drewN _ _ _⟩ | exact ⟨rfl, _, Eq.trans (World.drewN_drewN _ _ _) (congrArg (World.drewN _) (Nat.add_assoc _ _ _))⟩)) | (go_at_call 14; (with_reducible refine (downpourref01_Numbers.calls k3 _ _ l0_2 _ _ l1_2 true _ ?side1 ?side2 ?side3 ?side4 A44.out).mono ?_); (case side1 => repeat (first | exact (Kd.C_below HR0_2.out (by repeat (first | (with_reducible first | exact HB.out | apply below_alloc | apply pw_below_drewN | apply below_drew1 | refine below_set ?_ GE181.out | refine below_set ?_ GE182.out) | exact HB.out))) | (with_reducible refine Kd.C_alloc ?_ _) | (with_reducible refine Kd.C_drewN ?_ _) | (with_reducible refine Kd.C_drew ?_))); (case side2 => exact HC0_2.out); (case side3 => repeat (first | exact (Kd.C_below HR1_2.out (by repeat (first | (with_reducible first | exact HB.out | apply below_alloc | apply pw_below_drewN | apply below_drew1 | refine below_set ?_ GE181.out | refine below_set ?_ GE182.out) | exact HB.out))) | (with_reducible refine Kd.C_alloc ?_ _) | (with_reducible refine Kd.C_drewN ?_ _) | (with_reducible refine Kd.C_drew ?_))); (case side4 => exact HC1_2.out); rintro e w' ⟨rfl, ⟨nd, rfl⟩⟩; (try first | exact ⟨rfl, _, World.drewN_drewN _ _ _⟩ | exact ⟨rfl, _, Eq.trans (World.drewN_drewN _ _ _) (congrArg (World.drewN _) (Nat.add_assoc _ _ _))⟩)) | (go_at_call 14; (with_reducible refine (downpourref01_Numbers.calls k3 _ _ l0_3 _ _ l1_3 true _ ?side1 ?side2 ?side3 ?side4 A46.out).mono ?_); (case side1 => repeat (first | exact (Kd.C_below HR0_3.out (by repeat (first | (with_reducible first | exact HB.out | apply below_alloc | apply pw_below_drewN | apply below_drew1 | refine below_set ?_ GE181.out | refine below_set ?_ GE182.out) | exact HB.out))) | (with_reducible refine Kd.C_alloc ?_ _) | (with_reducible refine Kd.C_drewN ?_ _) | (with_reducible refine Kd.C_drew ?_))); (case side2 => exact HC0_3.out); (case side3 => repeat (first | exact (Kd.C_below HR1_3.out (by repeat (first | (with_reducible first | exact HB.out | apply below_alloc | apply pw_below_drewN | apply below_drew1 | refine below_set ?_ GE181.out | refine below_set ?_ GE182.out) | exact HB.out))) | (with_reducible refine Kd.C_alloc ?_ _) | (with_reducible refine Kd.C_drewN ?_ _) | (with_reducible refine Kd.C_drew ?_))); (case side4 => exact HC1_3.out); rintro e w' ⟨rfl, ⟨nd, rfl⟩⟩; (try first | exact ⟨rfl, _, World.drewN_drewN _ _ _⟩ | exact ⟨rfl, _, Eq.trans (World.drewN_drewN _ _ _) (congrArg (World.drewN _) (Nat.add_assoc _ _ _))⟩)) | (go_at_call 14; (with_reducible refine (downpourref01_Numbers.calls k3 _ _ l0_4 _ _ l1_4 t192 _ ?side1 ?side2 ?side3 ?side4 A48.out).mono ?_); (case side1 => repeat (first | exact (Kd.C_below HR0_4.out (by repeat (first | (with_reducible first | exact HB.out | apply below_alloc | apply pw_below_drewN | apply below_drew1 | refine below_set ?_ GE181.out | refine below_set ?_ GE182.out) | exact HB.out))) | (with_reducible refine Kd.C_alloc ?_ _) | (with_reducible refine Kd.C_drewN ?_ _) | (with_reducible refine Kd.C_drew ?_))); (case side2 => exact HC0_4.out); (case side3 => repeat (first | exact (Kd.C_below HR1_4.out (by repeat (first | (with_reducible first | exact HB.out | apply below_alloc | apply pw_below_drewN | apply below_drew1 | refine below_set ?_ GE181.out | refine below_set ?_ GE182.out) | exact HB.out))) | (with_reducible refine Kd.C_alloc ?_ _) | (with_reducible refine Kd.C_drewN ?_ _) | (with_reducible refine Kd.C_drew ?_))); (case side4 => exact HC1_4.out); rintro e w' ⟨rfl, ⟨nd, rfl⟩⟩; (try first | exact ⟨rfl, _, World.drewN_drewN _ _ _⟩ | exact ⟨rfl, _, Eq.trans (World.drewN_drewN _ _ _) (congrArg (World.drewN _) (Nat.add_assoc _ _ _))⟩)))
                          repeat (go_quiet (first | (go_at_call 14; (with_reducible refine (downpourref01_Numbers.calls k3 _ _ l0_1 _ _ l1_1 true _ ?side1 ?side2 ?side3 ?side4 A42.out).mono ?_); (case side1 => repeat (first | exact (Kd.C_below HR0_1.out HB.out) | (with_reducible refine Kd.C_alloc ?_ _) | (with_reducible refine Kd.C_drewN ?_ _) | (with_reducible refine Kd.C_drew ?_))); (case side2 => exact HC0_1.out); (case side3 => repeat (first | exact (Kd.C_below HR1_1.out HB.out) | (with_reducible refine Kd.C_alloc ?_ _) | (with_reducible refine Kd.C_drewN ?_ _) | (with_reducible refine Kd.C_drew ?_))); (case side4 => exact HC1_1.out); rintro e w' ⟨rfl, ⟨nd, rfl⟩⟩; (try first | exact ⟨rfl, _, World.drewN_drewN _ _ _⟩ | exact ⟨rfl, _, Eq.trans (World.drewN_drewN _ _ _) (congrArg (World.drewN _) (Nat.add_assoc _ _ _))⟩)) | (go_at_call 14; (with_reducible refine (downpourref01_Numbers.calls k3 _ _ l0_2 _ _ l1_2 true _ ?side1 ?side2 ?side3 ?side4 A44.out).mono ?_); (case side1 => repeat (first | exact (Kd.C_below HR0_2.out (by repeat (first | (with_reducible first | exact HB.out | apply below_alloc | apply pw_below_drewN | apply below_drew1 | refine below_set ?_ GE181.out | refine below_set ?_ GE182.out) | exact HB.out))) | (with_reducible refine Kd.C_alloc ?_ _) | (with_reducible refine Kd.C_drewN ?_ _) | (with_reducible refine Kd.C_drew ?_))); (case side2 => exact HC0_2.out); (case side3 => repeat (first | exact (Kd.C_below HR1_2.out (by repeat (first | (with_reducible first | exact HB.out | apply below_alloc | apply pw_below_drewN | apply below_drew1 | refine below_set ?_ GE181.out | refine below_set ?_ GE182.out) | exact HB.out))) | (with_reducible refine Kd.C_alloc ?_ _) | (with_reducible refine Kd.C_drewN ?_ _) | (with_reducible refine Kd.C_drew ?_))); (case side4 => exact HC1_2.out); rintro e w' ⟨rfl, ⟨nd, rfl⟩⟩; (try first | exact ⟨rfl, _, World.drewN_drewN _ _ _⟩ | exact ⟨rfl, _, Eq.trans (World.drewN_drewN _ _ _) (congrArg (World.drewN _) (Nat.add_assoc _ _ _))⟩)) | (go_at_call 14; (with_reducible refine (downpourref01_Numbers.calls k3 _ _ l0_3 _ _ l1_3 true _ ?side1 ?side2 ?side3 ?side4 A46.out).mono ?_); (case side1 => repeat (first | exact (Kd.C_below HR0_3.out (by repeat (first | (with_reducible first | exact HB.out | apply below_alloc | apply pw_below_drewN | apply below_drew1 | refine below_set ?_ GE181.out | refine below_set ?_ GE182.out) | exact HB.out))) | (with_reducible refine Kd.C_alloc ?_ _) | (with_reducible refine Kd.C_drewN ?_ _) | (with_reducible refine Kd.C_drew ?_))); (case side2 => exact HC0_3.out); (case side3 => repeat (first | exact (Kd.C_below HR1_3.out (by repeat (first | (with_reducible first | exact HB.out | apply below_alloc | apply pw_below_drewN | apply below_drew1 | refine below_set ?_ GE181.out | refine below_set ?_ GE182.out) | exact HB.out))) | (with_reducible refine Kd.C_alloc ?_ _) | (with_reducible refine Kd.C_drewN ?_ _) | (with_reducible refine Kd.C_drew ?_))); (case side4 => exact HC1_3.out); rintro e w' ⟨rfl, ⟨nd, rfl⟩⟩; (try first | exact ⟨rfl, _, World.drewN_drewN _ _ _⟩ | exact ⟨rfl, _, Eq.trans (World.drewN_drewN _ _ _) (congrArg (World.drewN _) (Nat.add_assoc _ _ _))⟩)) | (go_at_call 14; (with_reducible refine (downpourref01_Numbers.calls k3 _ _ l0_4 _ _ l1_4 t192 _ ?side1 ?side2 ?side3 ?side4 A48.out).mono ?_); (case side1 => repeat (first | exact (Kd.C_below HR0_4.out (by repeat (first | (with_reducible first | exact HB.out | apply below_alloc | apply pw_below_drewN | apply below_drew1 | refine below_set ?_ GE181.out | refine below_set ?_ GE182.out) | exact HB.out))) | (with_reducible refine Kd.C_alloc ?_ _) | (with_reducible refine Kd.C_drewN ?_ _) | (with_reducible refine Kd.C_drew ?_))); (case side2 => exact HC0_4.out); (case side3 => repeat (first | exact (Kd.C_below HR1_4.out (by repeat (first | (with_reducible first | exact HB.out | apply below_alloc | apply pw_below_drewN | apply below_drew1 | refine below_set ?_ GE181.out | refine below_set ?_ GE182.out) | exact HB.out))) | (with_reducible refine Kd.C_alloc ?_ _) | (with_reducible refine Kd.C_drewN ?_ _) | (with_reducible refine Kd.C_drew ?_))); (case side4 => exact HC1_4.out); rintro e w' ⟨rfl, ⟨nd, rfl⟩⟩; (try first | exact ⟨rfl, _, World.drewN_drewN _ _ _⟩ | exact ⟨rfl, _, Eq.trans (World.drewN_drewN _ _ _) (congrArg (World.drewN _) (Nat.add_assoc _ _ _))⟩))); try go_wp2_with (first | (go_at_call 14; (with_reducible refine (downpourref01_Numbers.calls k3 _ _ l0_1 _ _ l1_1 true _ ?side1 ?side2 ?side3 ?side4 A42.out).mono ?_); (case side1 => repeat (first | exact (Kd.C_below HR0_1.out HB.out) | (with_reducible refine Kd.C_alloc ?_ _) | (with_reducible refine Kd.C_drewN ?_ _) | (with_reducible refine Kd.C_drew ?_))); (case side2 => exact HC0_1.out); (case side3 => repeat (first | exact (Kd.C_below HR1_1.out HB.out) | (with_reducible refine Kd.C_alloc ?_ _) | (with_reducible refine Kd.C_drewN ?_ _) | (with_reducible refine Kd.C_drew ?_))); (case side4 => exact HC1_1.out); rintro e w' ⟨rfl, ⟨nd, rfl⟩⟩; (try first | exact ⟨rfl, _, World.drewN_drewN _ _ _⟩ | exact ⟨rfl, _, Eq.trans (World.drewN_drewN _ _ _) (congrArg (World.drewN _) (Nat.add_assoc _ _ _))⟩)) | (go_at_call 14; (with_reducible refine (downpourref01_Numbers.calls k3 _ _ l0_2 _ _ l1_2 true _ ?side1 ?side2 ?side3 ?side4 A44.out).mono ?_); (case side1 => repeat (first | exact (Kd.C_below HR0_2.out (by repeat (first | (with_reducible first | exact HB.out | apply below_alloc | apply pw_below_drewN | apply below_drew1 | refine below_set ?_ GE181.out | refine below_set ?_ GE182.out) | exact HB.out))) | (with_reducible refine Kd.C_alloc ?_ _) | (with_reducible refine Kd.C_drewN ?_ _) | (with_reducible refine Kd.C_drew ?_))); (case side2 => exact HC0_2.out); (case side3 => repeat (first | exact (Kd.C_below HR1_2.out (by repeat (first | (with_reducible first | exact HB.out | apply below_alloc | apply pw_below_drewN | apply below_drew1 | refine below_set ?_ GE181.out | refine below_set ?_ GE182.out) | exact HB.out))) | (with_reducible refine Kd.C_alloc ?_ _) | (with_reducible refine Kd.C_drewN ?_ _) | (with_reducible refine Kd.C_drew ?_))); (case side4 => exact HC1_2.out); rintro e w' ⟨rfl, ⟨nd, rfl⟩⟩; (try first | exact ⟨rfl, _, World.drewN_drewN _ _ _⟩ | exact ⟨rfl, _, Eq.trans (World.drewN_drewN _ _ _) (congrArg (World.drewN _) (Nat.add_assoc _ _ _))⟩)) | (go_at_call 14; (with_reducible refine (downpourref01_Numbers.calls k3 _ _ l0_3 _ _ l1_3 true _ ?side1 ?side2 ?side3 ?side4 A46.out).mono ?_); (case side1 => repeat (first | exact (Kd.C_below HR0_3.out (by repeat (first | (with_reducible first | exact HB.out | apply below_alloc | apply pw_below_drewN | apply below_drew1 | refine below_set ?_ GE181.out | refine below_set ?_ GE182.out) | exact HB.out))) | (with_reducible refine Kd.C_alloc ?_ _) | (with_reducible refine Kd.C_drewN ?_ _) | (with_reducible refine Kd.C_drew ?_))); (case side2 => exact HC0_3.out); (case side3 => repeat (first | exact (Kd.C_below HR1_3.out (by repeat (first | (with_reducible first | exact HB.out | apply below_alloc | apply pw_below_drewN | apply below_drew1 | refine below_set ?_ GE181.out | refine below_set ?_ GE182.out) | exact HB.out))) | (with_reducible refine Kd.C_alloc ?_ _) | (with_reducible refine Kd.C_drewN ?_ _) | (with_reducible refine Kd.C_drew ?_))); (case side4 => exact HC1_3.out); rintro e w' ⟨rfl, ⟨nd, rfl⟩⟩; (try first | exact ⟨rfl, _, World.drewN_drewN _ _ _⟩ | exact ⟨rfl, _, Eq.trans (World.drewN_drewN _ _ _) (congrArg (World.drewN _) (Nat.add_assoc _ _ _))⟩)) | (go_at_call 14; (with_reducible refine (downpourref01_Numbers.calls k3 _ _ l0_4 _ _ l1_4 t192 _ ?side1 ?side2 ?side3 ?side4 A48.out).mono ?_); (case side1 => repeat (first | exact (Kd.C_below HR0_4.out (by repeat (first | (with_reducible first | exact HB.out | apply below_alloc | apply pw_below_drewN | apply below_drew1 | refine below_set ?_ GE181.out | refine below_set ?_ GE182.out) | exact HB.out))) | (with_reducible refine Kd.C_alloc ?_ _) | (with_reducible refine Kd.C_drewN ?_ _) | (with_reducible refine Kd.C_drew ?_))); (case side2 => exact HC0_4.out); (case side3 => repeat (first | exact (Kd.C_below HR1_4.out (by repeat (first | (with_reducible first | exact HB.out | apply below_alloc | apply pw_below_drewN | apply below_drew1 | refine below_set ?_ GE181.out | refine below_set ?_ GE182.out) | exact HB.out))) | (with_reducible refine Kd.C_alloc ?_ _) | (with_reducible refine Kd.C_drewN ?_ _) | (with_reducible refine Kd.C_drew ?_))); (case side4 => exact HC1_4.out); rintro e w' ⟨rfl, ⟨nd, rfl⟩⟩; (try first | exact ⟨rfl, _, World.drewN_drewN _ _ _⟩ | exact ⟨rfl, _, Eq.trans (World.drewN_drewN _ _ _) (congrArg (World.drewN _) (Nat.add_assoc _ _ _))⟩))))
                          go_ret
                          exact ⟨by first | rfl | (simp [errW_none, errW_some] <;> rfl) | (simp [*, errW_none, errW_some] <;> rfl), by repeat (first | (with_reducible first | exact HB.out | apply below_alloc | apply pw_below_drewN | apply below_drew1 | refine below_set ?_ GE181.out | refine below_set ?_ GE182.out) | exact HB.out)⟩
                        · replace c47 := Bool.eq_false_iff.mpr c47
                          subst c47
                          have H1 : (some false) = some r := by rw [if_neg (show ¬ (false = true) by decide)] at H; exact H
                          clear H
                          have H := H1
                          clear H1
                          obtain rfl := Option.some.inj H
                          have hnb52 := NB181_182.out
                          have hnc52 := NB182_181.out
                          have hcz53_0 : wr.cell? ⟨gb181, 0, none⟩ = some (.slice A0_0 l0_0.length c0_0) := (blk_cell BK181.out 0).trans rfl
                          have hcz53_1 : wr.cell? ⟨gb181, 1, none⟩ = some (.slice A0_1 l0_1.length c0_1) := (blk_cell BK181.out 1).trans rfl
                          have hcz53_2 : wr.cell? ⟨gb181, 2, none⟩ = some (.slice A0_2 l0_2.length c0_2) := (blk_cell BK181.out 2).trans rfl
                          have hcz53_3 : wr.cell? ⟨gb181, 3, none⟩ = some (.slice A0_3 l0_3.length c0_3) := (blk_cell BK181.out 3).trans rfl
                          have hcz53_4 : wr.cell? ⟨gb181, 4, none⟩ = some (.slice A0_4 l0_4.length c0_4) := (blk_cell BK181.out 4).trans rfl
                          have hcz53_5 : wr.cell? ⟨gb181, 5, none⟩ = some (.slice A0_5 l0_5.length c0_5) := (blk_cell BK181.out 5).trans rfl
                          have hfz53_0 := blk_frozen BK181.out 0
                          have hfz53_1 := blk_frozen BK181.out 1
                          have hfz53_2 := blk_frozen BK181.out 2
                          have hfz53_3 := blk_frozen BK181.out 3
                          have hfz53_4 := blk_frozen BK181.out 4
                          have hfz53_5 := blk_frozen BK181.out 5
                          have hcz54_0 : wr.cell? ⟨gb182, 0, none⟩ = some (.slice A1_0 l1_0.length c1_0) := (blk_cell BK182.out 0).trans rfl
                          have hcz54_1 : wr.cell? ⟨gb182, 1, none⟩ = some (.slice A1_1 l1_1.length c1_1) := (blk_cell BK182.out 1).trans rfl
                          have hcz54_2 : wr.cell? ⟨gb182, 2, none⟩ = some (.slice A1_2 l1_2.length c1_2) := (blk_cell BK182.out 2).trans rfl
                          have hcz54_3 : wr.cell? ⟨gb182, 3, none⟩ = some (.slice A1_3 l1_3.length c1_3) := (blk_cell BK182.out 3).trans rfl
                          have hcz54_4 : wr.cell? ⟨gb182, 4, none⟩ = some (.slice A1_4 l1_4.length c1_4) := (blk_cell BK182.out 4).trans rfl
                          have hcz54_5 : wr.cell? ⟨gb182, 5, none⟩ = some (.slice A1_5 l1_5.length c1_5) := (blk_cell BK182.out 5).trans rfl
                          have hfz54_0 := blk_frozen BK182.out 0
                          have hfz54_1 := blk_frozen BK182.out 1
                          have hfz54_2 := blk_frozen BK182.out 2
                          have hfz54_3 := blk_frozen BK182.out 3
                          have hfz54_4 := blk_frozen BK182.out 4
                          have hfz54_5 := blk_frozen BK182.out 5
                          go_wp2_with (first | (go_at_call 14; (with_reducible refine (downpourref01_Numbers.calls k3 _ _ l0_1 _ _ l1_1 true _ ?side1 ?side2 ?side3 ?side4 A42.out).mono ?_); (case side1 => repeat (first | exact (Kd.C_below HR0_1.out HB.out) | (with_reducible refine Kd.C_alloc ?_ _) | (with_reducible refine Kd.C_drewN ?_ _) | (with_reducible refine Kd.C_drew ?_))); (case side2 => exact HC0_1.out); (case side3 => repeat (first | exact (Kd.C_below HR1_1.out HB.out) | (with_reducible refine Kd.C_alloc ?_ _) | (with_reducible refine Kd.C_drewN ?_ _) | (with_reducible refine Kd.C_drew ?_))); (case side4 => exact HC1_1.out); rintro e w' ⟨rfl, ⟨nd, rfl⟩⟩; (try first | exact ⟨rfl, _, World.drewN_drewN _ _ _⟩ | exact ⟨rfl, _, Eq.trans (World.drewN_drewN _ _ _) (congrArg (World.drewN _) (Nat.add_assoc _ _ _))⟩)) | (go_at_call 14; (with_reducible refine (downpourref01_Numbers.calls k3 _ _ l0_2 _ _ l1_2 true _ ?side1 ?side2 ?side3 ?side4 A44.out).mono ?_); (case side1 => repeat (first | exact (Kd.C_below HR0_2.out (by repeat (first | (with_reducible first | exact HB.out | apply below_alloc | apply pw_below_drewN | apply below_drew1 | refine below_set ?_ GE181.out | refine below_set ?_ GE182.out) | exact HB.out))) | (with_reducible refine Kd.C_alloc ?_ _) | (with_reducible refine Kd.C_drewN ?_ _) | (with_reducible refine Kd.C_drew ?_))); (case side2 => exact HC0_2.out); (case side3 => repeat (first | exact (Kd.C_below HR1_2.out (by repeat (first | (with_reducible first | exact HB.out | apply below_alloc | apply pw_below_drewN | apply below_drew1 | refine below_set ?_ GE181.out | refine below_set ?_ GE182.out) | exact HB.out))) | (with_reducible refine Kd.C_alloc ?_ _) | (with_reducible refine Kd.C_drewN ?_ _) | (with_reducible refine Kd.C_drew ?_))); (case side4 => exact HC1_2.out); rintro e w' ⟨rfl, ⟨nd, rfl⟩⟩; (try first | exact ⟨rfl, _, World.drewN_drewN _ _ _⟩ | exact ⟨rfl, _, Eq.trans (World.drewN_drewN _ _ _) (congrArg (World.drewN _) (Nat.add_assoc _ _ _))⟩)) | (go_at_call 14; (with_reducible refine (downpourref01_Numbers.calls k3 _ _ l0_3 _ _ l1_3 false _ ?side1 ?side2 ?side3 ?side4 A46.out).mono ?_); (case side1 => repeat (first | exact (Kd.C_below HR0_3.out (by repeat (first | (with_reducible first | exact HB.out | apply below_alloc | apply pw_below_drewN | apply below_drew1 | refine below_set ?_ GE181.out | refine below_set ?_ GE182.out) | exact HB.out))) | (with_reducible refine Kd.C_alloc ?_ _) | (with_reducible refine Kd.C_drewN ?_ _) | (with_reducible refine Kd.C_drew ?_))); (case side2 => exact HC0_3.out); (case side3 => repeat (first | exact (Kd.C_below HR1_3.out (by repeat (first | (with_reducible first | exact HB.out | apply below_alloc | apply pw_below_drewN | apply below_drew1 | refine below_set ?_ GE181.out | refine below_set ?_ GE182.out) | exact HB.out))) | (with_reducible refine Kd.C_alloc ?_ _) | (with_reducible refine Kd.C_drewN ?_ _) | (with_reducible refine Kd.C_drew ?_))); (case side4 => exact HC1_3.out); rintro e w' ⟨rfl, ⟨nd, rfl⟩⟩; (try first | exact ⟨rfl, _, World.drewN_drewN _ _ _⟩ | exact ⟨rfl, _, Eq.trans (World.drewN_drewN _ _ _) (congrArg (World.drewN _) (Nat.add_assoc _ _ _))⟩)))
                          repeat (go_quiet (first | (go_at_call 14; (with_reducible refine (downpourref01_Numbers.calls k3 _ _ l0_1 _ _ l1_1 true _ ?side1 ?side2 ?side3 ?side4 A42.out).mono ?_); (case side1 => repeat (first | exact (Kd.C_below HR0_1.out HB.out) | (with_reducible refine Kd.C_alloc ?_ _) | (with_reducible refine Kd.C_drewN ?_ _) | (with_reducible refine Kd.C_drew ?_))); (case side2 => exact HC0_1.out); (case side3 => repeat (first | exact (Kd.C_below HR1_1.out HB.out) | (with_reducible refine Kd.C_alloc ?_ _) | (with_reducible refine Kd.C_drewN ?_ _) | (with_reducible refine Kd.C_drew ?_))); (case side4 => exact HC1_1.out); rintro e w' ⟨rfl, ⟨nd, rfl⟩⟩; (try first | exact ⟨rfl, _, World.drewN_drewN _ _ _⟩ | exact ⟨rfl, _, Eq.trans (World.drewN_drewN _ _ _) (congrArg (World.drewN _) (Nat.add_assoc _ _ _))⟩)) | (go_at_call 14; (with_reducible refine (downpourref01_Numbers.calls k3 _ _ l0_2 _ _ l1_2 true _ ?side1 ?side2 ?side3 ?side4 A44.out).mono ?_); (case side1 => repeat (first | exact (Kd.C_below HR0_2.out (by repeat (first | (with_reducible first | exact HB.out | apply below_alloc | apply pw_below_drewN | apply below_drew1 | refine below_set ?_ GE181.out | refine below_set ?_ GE182.out) | exact HB.out))) | (with_reducible refine Kd.C_alloc ?_ _) | (with_reducible refine Kd.C_drewN ?_ _) | (with_reducible refine Kd.C_drew ?_))); (case side2 => exact HC0_2.out); (case side3 => repeat (first | exact (Kd.C_below HR1_2.out (by repeat (first | (with_reducible first | exact HB.out | apply below_alloc | apply pw_below_drewN | apply below_drew1 | refine below_set ?_ GE181.out | refine below_set ?_ GE182.out) | exact HB.out))) | (with_reducible refine Kd.C_alloc ?_ _) | (with_reducible refine Kd.C_drewN ?_ _) | (with_reducible refine Kd.C_drew ?_))); (case side4 => exact HC1_2.out); rintro e w' ⟨rfl, ⟨nd, rfl⟩⟩; (try first | exact ⟨rfl, _, World.drewN_drewN _ _ _⟩ | exact ⟨rfl, _, Eq.trans (World.drewN_drewN _ _ _) (congrArg (World.drewN _) (Nat.add_assoc _ _ _))⟩)) | (go_at_call 14; (with_reducible refine (downpourref01_Numbers.calls k3 _ _ l0_3 _ _ l1_3 false _ ?side1 ?side2 ?side3 ?side4 A46.out).mono ?_); (case side1 => repeat (first | exact (Kd.C_below HR0_3.out (by repeat (first | (with_reducible first | exact HB.out | apply below_alloc | apply pw_below_drewN | apply below_drew1 | refine below_set ?_ GE181.out | refine below_set ?_ GE182.out) | exact HB.out))) | (with_reducible refine Kd.C_alloc ?_ _) | (with_reducible refine Kd.C_drewN ?_ _) | (with_reducible refine Kd.C_drew ?_))); (case side2 => exact HC0_3.out); (case side3 => repeat (first | exact (Kd.C_below HR1_3.out (by repeat (first | (with_reducible first | exact HB.out | apply below_alloc | apply pw_below_drewN | apply below_drew1 | refine below_set ?_ GE181.out | refine below_set ?_ GE182.out) | exact HB.out))) | (with_reducible refine Kd.C_alloc ?_ _) | (with_reducible refine Kd.C_drewN ?_ _) | (with_reducible refine Kd.C_drew ?_))); (case side4 => exact HC1_3.out); rintro e w' ⟨rfl, ⟨nd, rfl⟩⟩; (try first | exact ⟨rfl, _, World.drewN_drewN _ _ _⟩ | exact ⟨rfl, _, Eq.trans (World.drewN_drewN _ _ _) (congrArg (World.drewN _) (Nat.add_assoc _ _ _))⟩))); try go_wp2_with (first | (go_at_call 14; (with_reducible refine (downpourref01_Numbers.calls k3 _ _ l0_1 _ _ l1_1 true _ ?side1 ?side2 ?side3 ?side4 A42.out).mono ?_); (case side1 => repeat (first | exact (Kd.C_below HR0_1.out HB.out) | (with_reducible refine Kd.C_alloc ?_ _) | (with_reducible refine Kd.C_drewN ?_ _) | (with_reducible refine Kd.C_drew ?_))); (case side2 => exact HC0_1.out); (case side3 => repeat (first | exact (Kd.C_below HR1_1.out HB.out) | (with_reducible refine Kd.C_alloc ?_ _) | (with_reducible refine Kd.C_drewN ?_ _) | (with_reducible refine Kd.C_drew ?_))); (case side4 => exact HC1_1.out); rintro e w' ⟨rfl, ⟨nd, rfl⟩⟩; (try first | exact ⟨rfl, _, World.drewN_drewN _ _ _⟩ | exact ⟨rfl, _, Eq.trans (World.drewN_drewN _ _ _) (congrArg (World.drewN _) (Nat.add_assoc _ _ _))⟩)) | (go_at_call 14; (with_reducible refine (downpourref01_Numbers.calls k3 _ _ l0_2 _ _ l1_2 true _ ?side1 ?side2 ?side3 ?side4 A44.out).mono ?_); (case side1 => repeat (first | exact (Kd.C_below HR0_2.out (by repeat (first | (with_reducible first | exact HB.out | apply below_alloc | apply pw_below_drewN | apply below_drew1 | refine below_set ?_ GE181.out | refine below_set ?_ GE182.out) | exact HB.out))) | (with_reducible refine Kd.C_alloc ?_ _) | (with_reducible refine Kd.C_drewN ?_ _) | (with_reducible refine Kd.C_drew ?_))); (case side2 => exact HC0_2.out); (case side3 => repeat (first | exact (Kd.C_below HR1_2.out (by repeat (first | (with_reducible first | exact HB.out | apply below_alloc | apply pw_below_drewN | apply below_drew1 | refine below_set ?_ GE181.out | refine below_set ?_ GE182.out) | exact HB.out))) | (with_reducible refine Kd.C_alloc ?_ _) | (with_reducible refine Kd.C_drewN ?_ _) | (with_reducible refine Kd.C_drew ?_))); (case side4 => exact HC1_2.out); rintro e w' ⟨rfl, ⟨nd, rfl⟩⟩; (try first | exact ⟨rfl, _, World.drewN_drewN _ _ _⟩ | exact ⟨rfl, _, Eq.trans (World.drewN_drewN _ _ _) (congrArg (World.drewN _) (Nat.add_assoc _ _ _))⟩)) | (go_at_call 14; (with_reducible refine (downpourref01_Numbers.calls k3 _ _ l0_3 _ _ l1_3 false _ ?side1 ?side2 ?side3 ?side4 A46.out).mono ?_); (case side1 => repeat (first | exact (Kd.C_below HR0_3.out (by repeat (first | (with_reducible first | exact HB.out | apply below_alloc | apply pw_below_drewN | apply below_drew1 | refine below_set ?_ GE181.out | refine below_set ?_ GE182.out) | exact HB.out))) | (with_reducible refine Kd.C_alloc ?_ _) | (with_reducible refine Kd.C_drewN ?_ _) | (with_reducible refine Kd.C_drew ?_))); (case side2 => exact HC0_3.out); (case side3 => repeat (first | exact (Kd.C_below HR1_3.out (by repeat (first | (with_reducible first | exact HB.out | apply below_alloc | apply pw_below_drewN | apply below_drew1 | refine below_set ?_ GE181.out | refine below_set ?_ GE182.out) | exact HB.out))) | (with_reducible refine Kd.C_alloc ?_ _) | (with_reducible refine Kd.C_drewN ?_ _) | (with_reducible refine Kd.C_drew ?_))); (case side4 => exact HC1_3.out); rintro e w' ⟨rfl, ⟨nd, rfl⟩⟩; (try first | exact ⟨rfl, _, World.drewN_drewN _ _ _⟩ | exact ⟨rfl, _, Eq.trans (World.drewN_drewN _ _ _) (congrArg (World.drewN _) (Nat.add_assoc _ _ _))⟩))))
                          go_ret
                          exact ⟨by first | rfl | (simp [errW_none, errW_some] <;> rfl) | (simp [*, errW_none, errW_some] <;> rfl), by repeat (first | (with_reducible first | exact HB.out | apply below_alloc | apply pw_below_drewN | apply below_drew1 | refine below_set ?_ GE181.out | refine below_set ?_ GE182.out) | exact HB.out)⟩
                      · replace c45 := Bool.eq_false_iff.mpr c45
                        subst c45
                        have H1 : (some false) = some r := by rw [if_neg (show ¬ (false = true) by decide)] at H; exact H
                        clear H
                        have H := H1
                        clear H1
                        obtain rfl := Option.some.inj H
                        have hnb55 := NB181_182.out
                        have hnc55 := NB182_181.out
                        have hcz56_0 : wr.cell? ⟨gb181, 0, none⟩ = some (.slice A0_0 l0_0.length c0_0) := (blk_cell BK181.out 0).trans rfl
                        have hcz56_1 : wr.cell? ⟨gb181, 1, none⟩ = some (.slice A0_1 l0_1.length c0_1) := (blk_cell BK181.out 1).trans rfl
                        have hcz56_2 : wr.cell? ⟨gb181, 2, none⟩ = some (.slice A0_2 l0_2.length c0_2) := (blk_cell BK181.out 2).trans rfl
                        have hcz56_3 : wr.cell? ⟨gb181, 3, none⟩ = some (.slice A0_3 l0_3.length c0_3) := (blk_cell BK181.out 3).trans rfl
                        have hcz56_4 : wr.cell? ⟨gb181, 4, none⟩ = some (.slice A0_4 l0_4.length c0_4) := (blk_cell BK181.out 4).trans rfl
                        have hcz56_5 : wr.cell? ⟨gb181, 5, none⟩ = some (.slice A0_5 l0_5.length c0_5) := (blk_cell BK181.out 5).trans rfl
                        have hfz56_0 := blk_frozen BK181.out 0
                        have hfz56_1 := blk_frozen BK181.out 1
                        have hfz56_2 := blk_frozen BK181.out 2
                        have hfz56_3 := blk_frozen BK181.out 3
                        have hfz56_4 := blk_frozen BK181.out 4
                        have hfz56_5 := blk_frozen BK181.out 5
                        have hcz57_0 : wr.cell? ⟨gb182, 0, none⟩ = some (.slice A1_0 l1_0.length c1_0) := (blk_cell BK182.out 0).trans rfl
                        have hcz57_1 : wr.cell? ⟨gb182, 1, none⟩ = some (.slice A1_1 l1_1.length c1_1) := (blk_cell BK182.out 1).trans rfl
                        have hcz57_2 : wr.cell? ⟨gb182, 2, none⟩ = some (.slice A1_2 l1_2.length c1_2) := (blk_cell BK182.out 2).trans rfl
                        have hcz57_3 : wr.cell? ⟨gb182, 3, none⟩ = some (.slice A1_3 l1_3.length c1_3) := (blk_cell BK182.out 3).trans rfl
                        have hcz57_4 : wr.cell? ⟨gb182, 4, none⟩ = some (.slice A1_4 l1_4.length c1_4) := (blk_cell BK182.out 4).trans rfl
                        have hcz57_5 : wr.cell? ⟨gb182, 5, none⟩ = some (.slice A1_5 l1_5.length c1_5) := (blk_cell BK182.out 5).trans rfl
                        have hfz57_0 := blk_frozen BK182.out 0
                        have hfz57_1 := blk_frozen BK182.out 1
                        have hfz57_2 := blk_frozen BK182.out 2
                        have hfz57_3 := blk_frozen BK182.out 3
                        have hfz57_4 := blk_frozen BK182.out 4
                        have hfz57_5 := blk_frozen BK182.out 5
                        go_wp2_with (first | (go_at_call 14; (with_reducible refine (downpourref01_Numbers.calls k3 _ _ l0_1 _ _ l1_1 true _ ?side1 ?side2 ?side3 ?side4 A42.out).mono ?_); (case side1 => repeat (first | exact (Kd.C_below HR0_1.out HB.out) | (with_reducible refine Kd.C_alloc ?_ _) | (with_reducible refine Kd.C_drewN ?_ _) | (with_reducible refine Kd.C_drew ?_))); (case side2 => exact HC0_1.out); (case side3 => repeat (first | exact (Kd.C_below HR1_1.out HB.out) | (with_reducible refine Kd.C_alloc ?_ _) | (with_reducible refine Kd.C_drewN ?_ _) | (with_reducible refine Kd.C_drew ?_))); (case side4 => exact HC1_1.out); rintro e w' ⟨rfl, ⟨nd, rfl⟩⟩; (try first | exact ⟨rfl, _, World.drewN_drewN _ _ _⟩ | exact ⟨rfl, _, Eq.trans (World.drewN_drewN _ _ _) (congrArg (World.drewN _) (Nat.add_assoc _ _ _))⟩)) | (go_at_call 14; (with_reducible refine (downpourref01_Numbers.calls k3 _ _ l0_2 _ _ l1_2 false _ ?side1 ?side2 ?side3 ?side4 A44.out).mono ?_); (case side1 => repeat (first | exact (Kd.C_below HR0_2.out (by repeat (first | (with_reducible first | exact HB.out | apply below_alloc | apply pw_below_drewN | apply below_drew1 | refine below_set ?_ GE181.out | refine below_set ?_ GE182.out) | exact HB.out))) | (with_reducible refine Kd.C_alloc ?_ _) | (with_reducible refine Kd.C_drewN ?_ _) | (with_reducible refine Kd.C_drew ?_))); (case side2 => exact HC0_2.out); (case side3 => repeat (first | exact (Kd.C_below HR1_2.out (by repeat (first | (with_reducible first | exact HB.out | apply below_alloc | apply pw_below_drewN | apply below_drew1 | refine below_set ?_ GE181.out | refine below_set ?_ GE182.out) | exact HB.out))) | (with_reducible refine Kd.C_alloc ?_ _) | (with_reducible refine Kd.C_drewN ?_ _) | (with_reducible refine Kd.C_drew ?_))); (case side4 => exact HC1_2.out); rintro e w' ⟨rfl, ⟨nd, rfl⟩⟩; (try first | exact ⟨rfl, _, World.drewN_drewN _ _ _⟩ | exact ⟨rfl, _, Eq.trans (World.drewN_drewN _ _ _) (congrArg (World.drewN _) (Nat.add_assoc _ _ _))⟩)))
                        repeat (go_quiet (first | (go_at_call 14; (with_reducible refine (downpourref01_Numbers.calls k3 _ _ l0_1 _ _ l1_1 true _ ?side1 ?side2 ?side3 ?side4 A42.out).mono ?_); (case side1 => repeat (first | exact (Kd.C_below HR0_1.out HB.out) | (with_reducible refine Kd.C_alloc ?_ _) | (with_reducible refine Kd.C_drewN ?_ _) | (with_reducible refine Kd.C_drew ?_))); (case side2 => exact HC0_1.out); (case side3 => repeat (first | exact (Kd.C_below HR1_1.out HB.out) | (with_reducible refine Kd.C_alloc ?_ _) | (with_reducible refine Kd.C_drewN ?_ _) | (with_reducible refine Kd.C_drew ?_))); (case side4 => exact HC1_1.out); rintro e w' ⟨rfl, ⟨nd, rfl⟩⟩; (try first | exact ⟨rfl, _, World.drewN_drewN _ _ _⟩ | exact ⟨rfl, _, Eq.trans (World.drewN_drewN _ _ _) (congrArg (World.drewN _) (Nat.add_assoc _ _ _))⟩)) | (go_at_call 14; (with_reducible refine (downpourref01_Numbers.calls k3 _ _ l0_2 _ _ l1_2 false _ ?side1 ?side2 ?side3 ?side4 A44.out).mono ?_); (case side1 => repeat (first | exact (Kd.C_below HR0_2.out (by repeat (first | (with_reducible first | exact HB.out | apply below_alloc | apply pw_below_drewN | apply below_drew1 | refine below_set ?_ GE181.out | refine below_set ?_ GE182.out) | exact HB.out))) | (with_reducible refine Kd.C_alloc ?_ _) | (with_reducible refine Kd.C_drewN ?_ _) | (with_reducible refine Kd.C_drew ?_))); (case side2 => exact HC0_2.out); (case side3 => repeat (first | exact (Kd.C_below HR1_2.out (by repeat (first | (with_reducible first | exact HB.out | apply below_alloc | apply pw_below_drewN | apply below_drew1 | refine below_set ?_ GE181.out | refine below_set ?_ GE182.out) | exact HB.out))) | (with_reducible refine Kd.C_alloc ?_ _) | (with_reducible refine Kd.C_drewN ?_ _) | (with_reducible refine Kd.C_drew ?_))); (case side4 => exact HC1_2.out); rintro e w' ⟨rfl, ⟨nd, rfl⟩⟩; (try first | exact ⟨rfl, _, World.drewN_drewN _ _ _⟩ | exact ⟨rfl, _, Eq.trans (World.drewN_drewN _ _ _) (congrArg (World.drewN _) (Nat.add_assoc _ _ _))⟩))); try go_wp2_with (first | (go_at_call 14; (with_reducible refine (downpourref01_Numbers.calls k3 _ _ l0_1 _ _ l1_1 true _ ?side1 ?side2 ?side3 ?side4 A42.out).mono ?_); (case side1 => repeat (first | exact (Kd.C_below HR0_1.out HB.out) | (with_reducible refine Kd.C_alloc ?_ _) | (with_reducible refine Kd.C_drewN ?_ _) | (with_reducible refine Kd.C_drew ?_))); (case side2 => exact HC0_1.out); (case side3 => repeat (first | exact (Kd.C_below HR1_1.out HB.out) | (with_reducible refine Kd.C_alloc ?_ _) | (with_reducible refine Kd.C_drewN ?_ _) | (with_reducible refine Kd.C_drew ?_))); (case side4 => exact HC1_1.out); rintro e w' ⟨rfl, ⟨nd, rfl⟩⟩; (try first | exact ⟨rfl, _, World.drewN_drewN _ _ _⟩ | exact ⟨rfl, _, Eq.trans (World.drewN_drewN _ _ _) (congrArg (World.drewN _) (Nat.add_assoc _ _ _))⟩)) | (go_at_call 14; (with_reducible refine (downpourref01_Numbers.calls k3 _ _ l0_2 _ _ l1_2 false _ ?side1 ?side2 ?side3 ?side4 A44.out).mono ?_); (case side1 => repeat (first | exact (Kd.C_below HR0_2.out (by repeat (first | (with_reducible first | exact HB.out | apply below_alloc | apply pw_below_drewN | apply below_drew1 | refine below_set ?_ GE181.out | refine below_set ?_ GE182.out) | exact HB.out))) | (with_reducible refine Kd.C_alloc ?_ _) | (with_reducible refine Kd.C_drewN ?_ _) | (with_reducible refine Kd.C_drew ?_))); (case side2 => exact HC0_2.out); (case side3 => repeat (first | exact (Kd.C_below HR1_2.out (by repeat (first | (with_reducible first | exact HB.out | apply below_alloc | apply pw_below_drewN | apply below_drew1 | refine below_set ?_ GE181.out | refine below_set ?_ GE182.out) | exact HB.out))) | (with_reducible refine Kd.C_alloc ?_ _) | (with_reducible refine Kd.C_drewN ?_ _) | (with_reducible refine Kd.C_drew ?_))); (case side4 => exact HC1_2.out); rintro e w' ⟨rfl, ⟨nd, rfl⟩⟩; (try first | exact ⟨rfl, _, World.drewN_drewN _ _ _⟩ | exact ⟨rfl, _, Eq.trans (World.drewN_drewN _ _ _) (congrArg (World.drewN _) (Nat.add_assoc _ _ _))⟩))))
                        go_ret
                        exact ⟨by first | rfl | (simp [errW_none, errW_some] <;> rfl) | (simp [*, errW_none, errW_some] <;> rfl), by repeat (first | (with_reducible first | exact HB.out | apply below_alloc | apply pw_below_drewN | apply below_drew1 | refine below_set ?_ GE181.out | refine below_set ?_ GE182.out) | exact HB.out)⟩
                    · replace c43 := Bool.eq_false_iff.mpr c43
                      subst c43
                      have H1 : (some false) = some r := by rw [if_neg (show ¬ (false = true) by decide)] at H; exact H
                      clear H
                      have H := H1
                      clear H1
                      obtain rfl := Option.some.inj H
                      have hnb58 := NB181_182.out
                      have hnc58 := NB182_181.out
                      have hcz59_0 : wr.cell? ⟨gb181, 0, none⟩ = some (.slice A0_0 l0_0.length c0_0) := (blk_cell BK181.out 0).trans rfl
                      have hcz59_1 : wr.cell? ⟨gb181, 1, none⟩ = some (.slice A0_1 l0_1.length c0_1) := (blk_cell BK181.out 1).trans rfl
                      have hcz59_2 : wr.cell? ⟨gb181, 2, none⟩ = some (.slice A0_2 l0_2.length c0_2) := (blk_cell BK181.out 2).trans rfl
                      have hcz59_3 : wr.cell? ⟨gb181, 3, none⟩ = some (.slice A0_3 l0_3.length c0_3) := (blk_cell BK181.out 3).trans rfl
                      have hcz59_4 : wr.cell? ⟨gb181, 4, none⟩ = some (.slice A0_4 l0_4.length c0_4) := (blk_cell BK181.out 4).trans rfl
                      have hcz59_5 : wr.cell? ⟨gb181, 5, none⟩ = some (.slice A0_5 l0_5.length c0_5) := (blk_cell BK181.out 5).trans rfl
                      have hfz59_0 := blk_frozen BK181.out 0
                      have hfz59_1 := blk_frozen BK181.out 1
                      have hfz59_2 := blk_frozen BK181.out 2
                      have hfz59_3 := blk_frozen BK181.out 3
                      have hfz59_4 := blk_frozen BK181.out 4
                      have hfz59_5 := blk_frozen BK181.out 5
                      have hcz60_0 : wr.cell? ⟨gb182, 0, none⟩ = some (.slice A1_0 l1_0.length c1_0) := (blk_cell BK182.out 0).trans rfl
                      have hcz60_1 : wr.cell? ⟨gb182, 1, none⟩ = some (.slice A1_1 l1_1.length c1_1) := (blk_cell BK182.out 1).trans rfl
                      have hcz60_2 : wr.cell? ⟨gb182, 2, none⟩ = some (.slice A1_2 l1_2.length c1_2) := (blk_cell BK182.out 2).trans rfl
                      have hcz60_3 : wr.cell? ⟨gb182, 3, none⟩ = some (.slice A1_3 l1_3.length c1_3) := (blk_cell BK182.out 3).trans rfl
                      have hcz60_4 : wr.cell? ⟨gb182, 4, none⟩ = some (.slice A1_4 l1_4.length c1_4) := (blk_cell BK182.out 4).trans rfl
                      have hcz60_5 : wr.cell? ⟨gb182, 5, none⟩ = some (.slice A1_5 l1_5.length c1_5) := (blk_cell BK182.out 5).trans rfl
                      have hfz60_0 := blk_frozen BK182.out 0
                      have hfz60_1 := blk_frozen BK182.out 1
                      have hfz60_2 := blk_frozen BK182.out 2
                      have hfz60_3 := blk_frozen BK182.out 3
                      have hfz60_4 := blk_frozen BK182.out 4
                      have hfz60_5 := blk_frozen BK182.out 5
                      go_wp2_with (first | (go_at_call 14; (with_reducible refine (downpourref01_Numbers.calls k3 _ _ l0_1 _ _ l1_1 false _ ?side1 ?side2 ?side3 ?side4 A42.out).mono ?_); (case side1 => repeat (first | exact (Kd.C_below HR0_1.out HB.out) | (with_reducible refine Kd.C_alloc ?_ _) | (with_reducible refine Kd.C_drewN ?_ _) | (with_reducible refine Kd.C_drew ?_))); (case side2 => exact HC0_1.out); (case side3 => repeat (first | exact (Kd.C_below HR1_1.out HB.out) | (with_reducible refine Kd.C_alloc ?_ _) | (with_reducible refine Kd.C_drewN ?_ _) | (with_reducible refine Kd.C_drew ?_))); (case side4 => exact HC1_1.out); rintro e w' ⟨rfl, ⟨nd, rfl⟩⟩; (try first | exact ⟨rfl, _, World.drewN_drewN _ _ _⟩ | exact ⟨rfl, _, Eq.trans (World.drewN_drewN _ _ _) (congrArg (World.drewN _) (Nat.add_assoc _ _ _))⟩)))
                      repeat (go_quiet (first | (go_at_call 14; (with_reducible refine (downpourref01_Numbers.calls k3 _ _ l0_1 _ _ l1_1 false _ ?side1 ?side2 ?side3 ?side4 A42.out).mono ?_); (case side1 => repeat (first | exact (Kd.C_below HR0_1.out HB.out) | (with_reducible refine Kd.C_alloc ?_ _) | (with_reducible refine Kd.C_drewN ?_ _) | (with_reducible refine Kd.C_drew ?_))); (case side2 => exact HC0_1.out); (case side3 => repeat (first | exact (Kd.C_below HR1_1.out HB.out) | (with_reducible refine Kd.C_alloc ?_ _) | (with_reducible refine Kd.C_drewN ?_ _) | (with_reducible refine Kd.C_drew ?_))); (case side4 => exact HC1_1.out); rintro e w' ⟨rfl, ⟨nd, rfl⟩⟩; (try first | exact ⟨rfl, _, World.drewN_drewN _ _ _⟩ | exact ⟨rfl, _, Eq.trans (World.drewN_drewN _ _ _) (congrArg (World.drewN _) (Nat.add_assoc _ _ _))⟩))); try go_wp2_with (first | (go_at_call 14; (with_reducible refine (downpourref01_Numbers.calls k3 _ _ l0_1 _ _ l1_1 false _ ?side1 ?side2 ?side3 ?side4 A42.out).mono ?_); (case side1 => repeat (first | exact (Kd.C_below HR0_1.out HB.out) | (with_reducible refine Kd.C_alloc ?_ _) | (with_reducible refine Kd.C_drewN ?_ _) | (with_reducible refine Kd.C_drew ?_))); (case side2 => exact HC0_1.out); (case side3 => repeat (first | exact (Kd.C_below HR1_1.out HB.out) | (with_reducible refine Kd.C_alloc ?_ _) | (with_reducible refine Kd.C_drewN ?_ _) | (with_reducible refine Kd.C_drew ?_))); (case side4 => exact HC1_1.out); rintro e w' ⟨rfl, ⟨nd, rfl⟩⟩; (try first | exact ⟨rfl, _, World.drewN_drewN _ _ _⟩ | exact ⟨rfl, _, Eq.trans (World.drewN_drewN _ _ _) (congrArg (World.drewN _) (Nat.add_assoc _ _ _))⟩))))
                      go_ret
                      exact ⟨by first | rfl | (simp [errW_none, errW_some] <;> rfl) | (simp [*, errW_none, errW_some] <;> rfl), by repeat (first | (with_reducible first | exact HB.out | apply below_alloc | apply pw_below_drewN | apply below_drew1 | refine below_set ?_ GE181.out | refine below_set ?_ GE182.out) | exact HB.out)⟩

end Go.Proofs.Ythnimpbcfegmjaa.P

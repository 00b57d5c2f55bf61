/- Functions and their contracts, printed by stubprint.py (a program of this repo, which runs the kit's print with some functions proved by hand): each call answers what the plain function tells. -/
import Derived.Test.YtfbngnplpoepjaaPx0
import Derived.Test.YtfbngnplpoepjaaPx5
import Derived.Test.YtfbngnplpoepjaaPx7
import Derived.Test.YtfbngnplpoepjaaPx8
import Derived.Test.YtfbngnplpoepjaaPx9
namespace Go.Proofs.Ytfbngnplpoepjaa.P
open Go.Proofs.Ytfbngnplpoepjaa.Own
open Go.RowKit Go.Proofs.YtfbngnplpoepjaaW.PrintWords Go.Proofs.YtfbngnplpoepjaaW.PrintLast Go.Proofs.YtfbngnplpoepjaaW.PrintMore
attribute [local go_sem] max2_int min2_int max_two min_two max_three min_three max_four min_four   -- for this text's walks alone
set_option linter.unusedVariables false
set_option linter.unusedSimpArgs false

/-! ### downpourlaw11_DatagramPuts: function 7 -/
def downpourlaw11_DatagramPuts.j0 : Nat → ByteArray → Int → Bool → Int → Int → Int → Int → ByteArray → Option (Bool)
  | 0, _, _, _, _, _, _, _, _ => none
  | k + 1, x3, x4, x24, x173000, x173001, x173002, x173003, x173004 => if x24 = true then (some false) else ((downpourref11_Right.f x173000 x173001 x173002 x173003 x173004).bind fun t179 => (if t179 = true then (if x4 = 0 then ((downpourref11_Put.f k x173000 x173001 x173002 x173003 x173004).bind fun t180 => (some (x3.toList == t180.toList))) else (some false)) else (if x4 = 1 then (some (x3.toList == ([] : List UInt8))) else (some false))))
def downpourlaw11_DatagramPuts.f (k : Nat) (a0_0 : Int) (a0_1 : Int) (a0_2 : Int) (a0_3 : Int) (a0_4 : ByteArray) : Option (Bool) := (downpourlaw11_cut.f a0_4).bind fun t173 => ((datagram_Put.f k a0_0 a0_1 a0_2 a0_3 t173).bind fun bt174 => ((datagram_Right.f a0_0 a0_1 a0_2 a0_3 t173).bind fun t176 => ((downpourref11_Right.f a0_0 a0_1 a0_2 a0_3 t173).bind fun t177 => (if (t176 != t177) = true then (downpourlaw11_DatagramPuts.j0 k bt174.1 bt174.2 true a0_0 a0_1 a0_2 a0_3 t173) else ((downpourlaw11_alive.f k).bind fun t178 => (downpourlaw11_DatagramPuts.j0 k bt174.1 bt174.2 (!t178) a0_0 a0_1 a0_2 a0_3 t173))))))
theorem downpourlaw11_DatagramPuts.mono_l : ∀ k, (∀ y0 y1 y2 y3 y4 y5 y6 y7, LeO (downpourlaw11_DatagramPuts.j0 k y0 y1 y2 y3 y4 y5 y6 y7) (downpourlaw11_DatagramPuts.j0 (k + 1) y0 y1 y2 y3 y4 y5 y6 y7))
  | 0 => fun _ _ _ _ _ _ _ _ r h => by simp [downpourlaw11_DatagramPuts.j0] at h
  | k + 1 => by
    have ih0 := downpourlaw11_DatagramPuts.mono_l k
    · intro y0 y1 y2 y3 y4 y5 y6 y7
      unfold downpourlaw11_DatagramPuts.j0
      repeat' first
      | (with_reducible exact ih0 _ _ _ _ _ _ _ _)
      | (with_reducible exact datagram_Put.mono _ _ _ _ _ _)
      | (with_reducible exact downpourlaw11_alive.mono _)
      | (with_reducible exact downpourref11_Put.mono _ _ _ _ _ _)
      | (with_reducible exact LeO.refl _)
      | (with_reducible exact LeO.none _)
      | (with_reducible refine LeO.ite ?_ ?_)
      | (with_reducible refine LeO.bind ?_ (fun _ => ?_))
      | exact ih0 _ _ _ _ _ _ _ _
      | exact datagram_Put.mono _ _ _ _ _ _
      | exact downpourlaw11_alive.mono _
      | exact downpourref11_Put.mono _ _ _ _ _ _
      | exact LeO.none _
      | refine LeO.ite ?_ ?_
      | refine LeO.bind ?_ (fun _ => ?_)
theorem downpourlaw11_DatagramPuts.mono : ∀ a0 a1 a2 a3 a4 k, LeO (downpourlaw11_DatagramPuts.f k a0 a1 a2 a3 a4) (downpourlaw11_DatagramPuts.f (k + 1) a0 a1 a2 a3 a4) := by
  intro a0 a1 a2 a3 a4 k
  have ih0 := downpourlaw11_DatagramPuts.mono_l k
  unfold downpourlaw11_DatagramPuts.f
  repeat' first
      | (with_reducible exact ih0 _ _ _ _ _ _ _ _)
      | (with_reducible exact datagram_Put.mono _ _ _ _ _ _)
      | (with_reducible exact downpourlaw11_alive.mono _)
      | (with_reducible exact downpourref11_Put.mono _ _ _ _ _ _)
      | (with_reducible exact LeO.refl _)
      | (with_reducible exact LeO.none _)
      | (with_reducible refine LeO.ite ?_ ?_)
      | (with_reducible refine LeO.bind ?_ (fun _ => ?_))
      | exact ih0 _ _ _ _ _ _ _ _
      | exact datagram_Put.mono _ _ _ _ _ _
      | exact downpourlaw11_alive.mono _
      | exact downpourref11_Put.mono _ _ _ _ _ _
      | exact LeO.none _
      | refine LeO.ite ?_ ?_
      | refine LeO.bind ?_ (fun _ => ?_)
def downpourlaw11_DatagramPuts.T3 : Bool × List (List Nat × List Nat) := (true, [([], []), ([0], [0]), ([], []), ([2, 1], [2]), ([1, 3], [1, 3]), ([4, 3], [4]), ([5, 5], [5]), ([6, 5], [5, 6]), ([5, 7], [5, 7])])
def downpourlaw11_DatagramPuts.B3 : List Nat := [0, 1, 0, 7, 15, 31, 63, 127, 255]
theorem downpourlaw11_DatagramPuts.tab3 : rtab .any (opsOf Try.f7 3) = downpourlaw11_DatagramPuts.T3 := by kernel_rfl
theorem downpourlaw11_DatagramPuts.bits3 : waitsOk downpourlaw11_DatagramPuts.T3.2 downpourlaw11_DatagramPuts.B3 = true := by kernel_rfl
set_option maxHeartbeats 8000000 in
set_option maxRecDepth 100000 in
theorem downpourlaw11_DatagramPuts.calls (k : Nat) (a0_0 : Int) (a0_1 : Int) (a0_2 : Int) (a0_3 : Int) (a0_4 : ByteArray) (r : Bool) (w : World) (h : downpourlaw11_DatagramPuts.f k a0_0 a0_1 a0_2 a0_3 a0_4 = some r) :
    Calls Try.prog 7 #[.agg #[.int .u64 a0_0, .int .i64 a0_1, .int .i64 a0_2, .int .u64 a0_3, .string a0_4]] w fun e w' => e = .returned (.bool r) ∧ Below w.heap.size w w' := by
  have hu39 := Try.underlying39
  have HB := Aside0.mk (Below.refl w.heap.size w)
  have H : ((downpourlaw11_cut.f a0_4).bind fun t173 => ((datagram_Put.f k a0_0 a0_1 a0_2 a0_3 t173).bind fun bt174 => ((datagram_Right.f a0_0 a0_1 a0_2 a0_3 t173).bind fun t176 => ((downpourref11_Right.f a0_0 a0_1 a0_2 a0_3 t173).bind fun t177 => (if (t176 != t177) = true then (downpourlaw11_DatagramPuts.j0 k bt174.1 bt174.2 true a0_0 a0_1 a0_2 a0_3 t173) else ((downpourlaw11_alive.f k).bind fun t178 => (downpourlaw11_DatagramPuts.j0 k bt174.1 bt174.2 (!t178) a0_0 a0_1 a0_2 a0_3 t173))))))) = some r := h
  clear h
  replace H := Option.bind_eq_some_iff.mp H
  obtain ⟨t173, A20, H⟩ := H
  replace H : ((datagram_Put.f k a0_0 a0_1 a0_2 a0_3 t173).bind fun bt174 => ((datagram_Right.f a0_0 a0_1 a0_2 a0_3 t173).bind fun t176 => ((downpourref11_Right.f a0_0 a0_1 a0_2 a0_3 t173).bind fun t177 => (if (t176 != t177) = true then (downpourlaw11_DatagramPuts.j0 k bt174.1 bt174.2 true a0_0 a0_1 a0_2 a0_3 t173) else ((downpourlaw11_alive.f k).bind fun t178 => (downpourlaw11_DatagramPuts.j0 k bt174.1 bt174.2 (!t178) a0_0 a0_1 a0_2 a0_3 t173)))))) = some r := H
  have A2 := Aside0.mk A20
  clear A20
  replace H := Option.bind_eq_some_iff.mp H
  obtain ⟨⟨t174, t175⟩, A30, H⟩ := H
  replace H : ((datagram_Right.f a0_0 a0_1 a0_2 a0_3 t173).bind fun t176 => ((downpourref11_Right.f a0_0 a0_1 a0_2 a0_3 t173).bind fun t177 => (if (t176 != t177) = true then (downpourlaw11_DatagramPuts.j0 k t174 t175 true a0_0 a0_1 a0_2 a0_3 t173) else ((downpourlaw11_alive.f k).bind fun t178 => (downpourlaw11_DatagramPuts.j0 k t174 t175 (!t178) a0_0 a0_1 a0_2 a0_3 t173))))) = some r := H
  have A3 := Aside0.mk A30
  clear A30
  have HC4 := Aside0.mk H
  clear H
  go_enter Try.func7, Try.ntmps7
  go_upto_region 3 with (first | ((with_reducible refine gate_dst (N := 1) rfl ?_); refine box_event ?hg (N := 1) ?hd (cs := #[.int .u64 a0_0, .int .i64 a0_1, .int .i64 a0_2, .int .u64 a0_3, .string a0_4]) (t := 39) ?hr ?_; (case hd => rfl); (case hg => rfl); (case hr => first | (go_simp; done) | (go_simp; rfl)); intro gb172 hg w5 hbox hb; have n0_ := Aside0.mk (below_step (by repeat (first | (with_reducible first | exact HB.out | apply below_alloc | apply pw_below_drewN | apply below_drew1) | exact HB.out)) hb); have n1_ := Aside0.mk (hbox); have n2_ := Aside0.mk ((by rw [hg]; exact (below_size (by repeat (first | (with_reducible first | exact HB.out | apply below_alloc | apply pw_below_drewN | apply below_drew1) | exact HB.out))) : w.heap.size ≤ gb172)); have n3_ := Aside0.mk ((by rw [hg]; exact (below_size (by repeat (first | (with_reducible first | exact HB.out | apply below_alloc | apply pw_below_drewN | apply below_drew1) | exact HB.out))) : w.heap.size ≤ gb172)); clear HB; have HB := n0_; have BK172 := n1_; have GW172 := n2_; have GE172 := n3_; clear n0_ n1_ n2_ n3_; clear hb hbox hg; have hcz6_0 : w5.cell? ⟨gb172, 0, none⟩ = some (.int .u64 a0_0) := (blk_cell BK172.out 0).trans rfl; have hcz6_1 : w5.cell? ⟨gb172, 1, none⟩ = some (.int .i64 a0_1) := (blk_cell BK172.out 1).trans rfl; have hcz6_2 : w5.cell? ⟨gb172, 2, none⟩ = some (.int .i64 a0_2) := (blk_cell BK172.out 2).trans rfl; have hcz6_3 : w5.cell? ⟨gb172, 3, none⟩ = some (.int .u64 a0_3) := (blk_cell BK172.out 3).trans rfl; have hcz6_4 : w5.cell? ⟨gb172, 4, none⟩ = some (.string a0_4) := (blk_cell BK172.out 4).trans rfl; have hfz6_0 := blk_frozen BK172.out 0; have hfz6_1 := blk_frozen BK172.out 1; have hfz6_2 := blk_frozen BK172.out 2; have hfz6_3 := blk_frozen BK172.out 3; have hfz6_4 := blk_frozen BK172.out 4) | ((with_reducible refine gate_callee (f := 18) rfl ?_); refine goesL_ (some 8) rfl rfl Try.func18 (by kernel_rfl) rfl #[.string a0_4] rfl (by (try simp only [List.map_toArray, List.map_cons, List.map_nil]); first | done | rfl | (simp only [List.length_drop, List.length_take]; rfl)) ?_; (with_reducible refine (downpourlaw11_cut.calls a0_4 t173 _ A2.out).mono ?_); rintro e w7 ⟨rfl, hb⟩; refine ⟨_, rfl, ?_⟩; have n0_ := Aside0.mk (blk_below (g := gb172) (o := .cells #[.int .u64 a0_0, .int .i64 a0_1, .int .i64 a0_2, .int .u64 a0_3, .string a0_4] 39 (0, 0)) (by (with_reducible repeat (first | refine blk_drewN ?_ _ | refine blk_drew ?_ | refine blk_alloc ?_ _)); exact BK172.out) hb); have n1_ := Aside0.mk (below_step (by repeat (first | (with_reducible first | exact HB.out | apply below_alloc | apply pw_below_drewN | apply below_drew1 | refine below_set ?_ GE172.out) | exact HB.out)) hb); clear BK172; clear HB; have BK172 := n0_; have HB := n1_; clear n0_ n1_; (try clear hb); (try clear hb2); (try clear hk); (try clear hi); have hcz8_0 : w7.cell? ⟨gb172, 0, none⟩ = some (.int .u64 a0_0) := (blk_cell BK172.out 0).trans rfl; have hcz8_1 : w7.cell? ⟨gb172, 1, none⟩ = some (.int .i64 a0_1) := (blk_cell BK172.out 1).trans rfl; have hcz8_2 : w7.cell? ⟨gb172, 2, none⟩ = some (.int .i64 a0_2) := (blk_cell BK172.out 2).trans rfl; have hcz8_3 : w7.cell? ⟨gb172, 3, none⟩ = some (.int .u64 a0_3) := (blk_cell BK172.out 3).trans rfl; have hcz8_4 : w7.cell? ⟨gb172, 4, none⟩ = some (.string a0_4) := (blk_cell BK172.out 4).trans rfl; have hfz8_0 := blk_frozen BK172.out 0; have hfz8_1 := blk_frozen BK172.out 1; have hfz8_2 := blk_frozen BK172.out 2; have hfz8_3 := blk_frozen BK172.out 3; have hfz8_4 := blk_frozen BK172.out 4) | ((with_reducible refine gate_callee (f := 19) rfl ?_); refine goesL_ (some 13) rfl rfl Try.func19 (by kernel_rfl) rfl #[.agg #[.int .u64 a0_0, .int .i64 a0_1, .int .i64 a0_2, .int .u64 a0_3, .string t173]] rfl (by (try simp only [List.map_toArray, List.map_cons, List.map_nil]); first | done | rfl | (simp only [List.length_drop, List.length_take]; rfl)) ?_; (with_reducible refine (datagram_Put.calls k a0_0 a0_1 a0_2 a0_3 t173 t174 t175 _ A3.out).mono ?_); rintro e w9 ⟨rfl, hb⟩; refine ⟨_, rfl, ?_⟩; have n0_ := Aside0.mk (blk_below (g := gb172) (o := .cells #[.int .u64 a0_0, .int .i64 a0_1, .int .i64 a0_2, .int .u64 a0_3, .string t173] 39 (0, 0)) (by (with_reducible repeat (first | refine blk_drewN ?_ _ | refine blk_drew ?_ | refine blk_alloc ?_ _)); refine blk_put (cs := #[.int .u64 a0_0, .int .i64 a0_1, .int .i64 a0_2, .int .u64 a0_3, .string a0_4]) ?_ 4 _ rfl; (with_reducible repeat (first | refine blk_drewN ?_ _ | refine blk_drew ?_ | refine blk_alloc ?_ _)); exact BK172.out) hb); have n1_ := Aside0.mk (below_step (by repeat (first | (with_reducible first | exact HB.out | apply below_alloc | apply pw_below_drewN | apply below_drew1 | refine below_set ?_ GE172.out) | exact HB.out)) hb); clear BK172; clear HB; have BK172 := n0_; have HB := n1_; clear n0_ n1_; (try clear hb); (try clear hb2); (try clear hk); (try clear hi)))
  (try simp only [Act.put, List.setIfInBounds_toArray, List.set_cons_zero, List.set_cons_succ])
  go_cut [24] (fun v24 wc => ∃ (kq : Nat) (x24_3 : Bool), v24 = .bool x24_3 ∧ Aside0 (downpourlaw11_DatagramPuts.j0 kq t174 t175 x24_3 a0_0 a0_1 a0_2 a0_3 t173 = some r) ∧ Aside0 (kq ≤ k) ∧ Aside0 (wc.heap[gb172]? = some (.cells #[.int .u64 a0_0, .int .i64 a0_1, .int .i64 a0_2, .int .u64 a0_3, .string t173] 39 (0, 0))) ∧ Aside0 (Below w.heap.size w wc))
  case first =>
    have H := HC4.out
    clear HC4
    replace H := Option.bind_eq_some_iff.mp H
    obtain ⟨t176, A100, H⟩ := H
    replace H : ((downpourref11_Right.f a0_0 a0_1 a0_2 a0_3 t173).bind fun t177 => (if (t176 != t177) = true then (downpourlaw11_DatagramPuts.j0 k t174 t175 true a0_0 a0_1 a0_2 a0_3 t173) else ((downpourlaw11_alive.f k).bind fun t178 => (downpourlaw11_DatagramPuts.j0 k t174 t175 (!t178) a0_0 a0_1 a0_2 a0_3 t173)))) = some r := H
    have A10 := Aside0.mk A100
    clear A100
    replace H := Option.bind_eq_some_iff.mp H
    obtain ⟨t177, A110, H⟩ := H
    replace H : (if (t176 != t177) = true then (downpourlaw11_DatagramPuts.j0 k t174 t175 true a0_0 a0_1 a0_2 a0_3 t173) else ((downpourlaw11_alive.f k).bind fun t178 => (downpourlaw11_DatagramPuts.j0 k t174 t175 (!t178) a0_0 a0_1 a0_2 a0_3 t173))) = some r := H
    have A11 := Aside0.mk A110
    clear A110
    by_cases c12 : (t176 != t177) = true
    · rw [if_pos c12] at H
      have c12b0 : (t176 != t177) = true := c12
      (try (have c12b1 : decide (t176 = t177) = false := by simpa using c12))
      (try (have c12b2 : (t176 == t177) = false := by simpa using c12))
      (try (have c12b3 : ¬ (t176 = t177) := by simpa using c12))
      clear c12
      (first | rw [c12b0] | (simp only [i64_w, i32_w]; rw [c12b0]) | skip)
      have H' := Aside0.mk H
      clear H
      try go_wp2
      have n0_ := Aside0.mk (blk_drew BK172.out)
      have n1_ := Aside0.mk (below_drew1 HB.out)
      clear BK172
      clear HB
      have BK172 := n0_
      have HB := n1_
      clear n0_ n1_
      refine start_ (n := 9) (S := fun w' => w'.cell? ⟨gb172, 0, none⟩ = some (.int .u64 a0_0) ∧ w'.cell? ⟨gb172, 1, none⟩ = some (.int .i64 a0_1) ∧ w'.cell? ⟨gb172, 2, none⟩ = some (.int .i64 a0_2) ∧ w'.cell? ⟨gb172, 3, none⟩ = some (.int .u64 a0_3) ∧ w'.cell? ⟨gb172, 4, none⟩ = some (.string t173)) (ds := []) #[false, false, false, false, false, false, false, false, false] (by kernel_rfl) rfl rfl ⟨(blk_cell BK172.out 0).trans rfl, (blk_cell BK172.out 1).trans rfl, (blk_cell BK172.out 2).trans rfl, (blk_cell BK172.out 3).trans rfl, (blk_cell BK172.out 4).trans rfl⟩ (fun hHeld => ?_); refine with_tabW downpourlaw11_DatagramPuts.tab3 downpourlaw11_DatagramPuts.bits3 (fun HT_ HW_ => ?_)
      generalize w9.drew = w13 at BK172 HB hHeld ⊢
      refine take_ (i := 0) (N := some 16) (v := ?_) (a' := ?_) #[true, false, false, false, false, false, false, false, false] rfl rfl (take_ofW HT_.out HW_.out (by kernel_rfl)) (fun _ _ _ h => h) (Or.inl ⟨by rfl, ?_⟩) hHeld ?_ ?_
      rotate_left
      · rintro w' ⟨s0, s1, s2, s3, s4⟩
        go_simp
        with_reducible rfl
      rotate_left
      · simp only [Act.put, List.setIfInBounds_toArray, List.set_cons_zero, List.set_cons_succ, i64_w, i32_w]
        rfl
      refine take_ (i := 2) (N := some 18) (v := ?_) (a' := ?_) #[true, false, true, false, false, false, false, false, false] rfl rfl (take_ofW HT_.out HW_.out (by kernel_rfl)) (fun _ _ _ h => h) (Or.inl ⟨by rfl, ?_⟩) hHeld ?_ ?_
      rotate_left
      · rintro w' ⟨s0, s1, s2, s3, s4⟩
        go_simp
        with_reducible rfl
      rotate_left
      · simp only [Act.put, List.setIfInBounds_toArray, List.set_cons_zero, List.set_cons_succ, i64_w, i32_w]
        rfl
      refine one_ (i := 1) (N := some 17) #[true, true, true, false, false, false, false, false, false] rfl rfl (one_of HT_.out (by kernel_rfl)) (by decide) (fun K hK => ?_)
      refine goes_ Try.func20 (by kernel_rfl) rfl #[.agg #[.int .u64 a0_0, .int .i64 a0_1, .int .i64 a0_2, .int .u64 a0_3, .string t173]] (by rfl) rfl rfl (by (try simp only [List.map_toArray, List.map_cons, List.map_nil]); first | done | rfl | (simp only [List.length_drop, List.length_take]; rfl)) ?_
      with_reducible refine (datagram_Right.calls a0_0 a0_1 a0_2 a0_3 t173 t176 _ A10.out).mono ?_
      rintro e w14 ⟨rfl, hb⟩
      refine ⟨_, rfl, ?_⟩
      have n0_ := Aside0.mk (blk_below (g := gb172) (o := .cells #[.int .u64 a0_0, .int .i64 a0_1, .int .i64 a0_2, .int .u64 a0_3, .string t173] 39 (0, 0)) (by (with_reducible repeat (first | refine blk_drewN ?_ _ | refine blk_drew ?_ | refine blk_alloc ?_ _)); exact BK172.out) hb)
      have n1_ := Aside0.mk (below_step (by repeat (first | (with_reducible first | exact HB.out | apply below_alloc | apply pw_below_drewN | apply below_drew1 | refine below_set ?_ GE172.out) | exact HB.out)) hb)
      clear BK172
      clear HB
      have BK172 := n0_
      have HB := n1_
      clear n0_ n1_
      (try clear hb)
      (try clear hb2)
      (try clear hk)
      (try clear hi)
      refine hK.out _ _ ⟨(blk_cell BK172.out 0).trans rfl, (blk_cell BK172.out 1).trans rfl, (blk_cell BK172.out 2).trans rfl, (blk_cell BK172.out 3).trans rfl, (blk_cell BK172.out 4).trans rfl⟩ (fun hHeld => ?_)
      clear hK K
      refine norm_ (a' := ?_) ?_ ?_
      rotate_left
      · show Act.put _ (some 17) _ = _
        simp only [Act.put, List.setIfInBounds_toArray, List.set_cons_zero, List.set_cons_succ, i64_w, i32_w]
        rfl
      refine one_ (i := 3) (N := some 19) #[true, true, true, true, false, false, false, false, false] rfl rfl (one_of HT_.out (by kernel_rfl)) (by decide) (fun K hK => ?_)
      refine goes_ Try.func21 (by kernel_rfl) rfl #[.agg #[.int .u64 a0_0, .int .i64 a0_1, .int .i64 a0_2, .int .u64 a0_3, .string t173]] (by rfl) rfl rfl (by (try simp only [List.map_toArray, List.map_cons, List.map_nil]); first | done | rfl | (simp only [List.length_drop, List.length_take]; rfl)) ?_
      with_reducible refine (downpourref11_Right.calls a0_0 a0_1 a0_2 a0_3 t173 t177 _ A11.out).mono ?_
      rintro e w15 ⟨rfl, hb⟩
      refine ⟨_, rfl, ?_⟩
      have n0_ := Aside0.mk (blk_below (g := gb172) (o := .cells #[.int .u64 a0_0, .int .i64 a0_1, .int .i64 a0_2, .int .u64 a0_3, .string t173] 39 (0, 0)) (by (with_reducible repeat (first | refine blk_drewN ?_ _ | refine blk_drew ?_ | refine blk_alloc ?_ _)); exact BK172.out) hb)
      have n1_ := Aside0.mk (below_step (by repeat (first | (with_reducible first | exact HB.out | apply below_alloc | apply pw_below_drewN | apply below_drew1 | refine below_set ?_ GE172.out) | exact HB.out)) hb)
      clear BK172
      clear HB
      have BK172 := n0_
      have HB := n1_
      clear n0_ n1_
      (try clear hb)
      (try clear hb2)
      (try clear hk)
      (try clear hi)
      refine hK.out _ _ ⟨(blk_cell BK172.out 0).trans rfl, (blk_cell BK172.out 1).trans rfl, (blk_cell BK172.out 2).trans rfl, (blk_cell BK172.out 3).trans rfl, (blk_cell BK172.out 4).trans rfl⟩ (fun hHeld => ?_)
      clear hK K
      refine norm_ (a' := ?_) ?_ ?_
      rotate_left
      · show Act.put _ (some 19) _ = _
        simp only [Act.put, List.setIfInBounds_toArray, List.set_cons_zero, List.set_cons_succ, i64_w, i32_w]
        rfl
      refine pure_ (i := 4) (N := some 20) (v := ?_) (a' := ?_) #[true, true, true, true, true, false, false, false, false] rfl rfl (any_of HT_.out (by kernel_rfl)) (fun _ _ _ h => h) (Or.inl ⟨by rfl, ?_⟩) ?_ ?_
      rotate_left
      · intro w'
        go_simp
        with_reducible rfl
      rotate_left
      · simp only [Act.put, List.setIfInBounds_toArray, List.set_cons_zero, List.set_cons_succ, i64_w, i32_w]
        rfl
      refine pure_ (i := 5) (N := some 21) (v := ?_) (a' := ?_) #[true, true, true, true, true, true, false, false, false] rfl rfl (any_of HT_.out (by kernel_rfl)) (fun _ _ _ h => h) (Or.inl ⟨by rfl, ?_⟩) ?_ ?_
      rotate_left
      · intro w'
        go_simp
        with_reducible rfl
      rotate_left
      · simp only [Act.put, List.setIfInBounds_toArray, List.set_cons_zero, List.set_cons_succ, i64_w, i32_w]
        rfl
      refine pure_ (i := 6) (N := some 22) (v := undef) (a' := ?_) #[true, true, true, true, true, true, true, false, false] rfl rfl (any_of HT_.out (by kernel_rfl)) (fun _ _ _ h => h) (Or.inr ⟨by rfl, rfl⟩) ?_ ?_
      rotate_left
      · simp only [Act.put, List.setIfInBounds_toArray, List.set_cons_zero, List.set_cons_succ, i64_w, i32_w]
        rfl
      refine pure_ (i := 7) (N := some 23) (v := undef) (a' := ?_) #[true, true, true, true, true, true, true, true, false] rfl rfl (any_of HT_.out (by kernel_rfl)) (fun _ _ _ h => h) (Or.inr ⟨by rfl, rfl⟩) ?_ ?_
      rotate_left
      · simp only [Act.put, List.setIfInBounds_toArray, List.set_cons_zero, List.set_cons_succ, i64_w, i32_w]
        rfl
      refine pure_ (i := 8) (N := some 24) (v := ?_) (a' := ?_) #[true, true, true, true, true, true, true, true, true] rfl rfl (any_of HT_.out (by kernel_rfl)) (fun _ _ _ h => h) (Or.inl ⟨by rfl, ?_⟩) ?_ ?_
      rotate_left
      · intro w'
        go_simp
        with_reducible rfl
      rotate_left
      · simp only [Act.put, List.setIfInBounds_toArray, List.set_cons_zero, List.set_cons_succ, i64_w, i32_w]
        rfl
      refine done_ (done_of HT_.out (by kernel_rfl)) ?_
      try go_wp2
      go_meet
      case rel => exact ⟨_, (true), (by first | rfl | (simp; done) | (simp [*]; done)), H', ⟨by first | omega | exact Nat.le_refl _⟩, ⟨by (with_reducible repeat (first | refine blk_drewN ?_ _ | refine blk_drew ?_ | refine blk_alloc ?_ _)); exact BK172.out⟩, ⟨by repeat (first | (with_reducible first | exact HB.out | apply below_alloc | apply pw_below_drewN | apply below_drew1 | refine below_set ?_ GE172.out) | exact HB.out)⟩⟩
    · rw [if_neg c12] at H
      have c12b0 : (t176 != t177) = false := by simpa using c12
      (try (have c12b1 : decide (t176 = t177) = true := by simpa using c12))
      (try (have c12b2 : (t176 == t177) = true := by simpa using c12))
      clear c12
      (first | rw [c12b0] | (simp only [i64_w, i32_w]; rw [c12b0]) | skip)
      replace H := Option.bind_eq_some_iff.mp H
      obtain ⟨t178, A160, H⟩ := H
      replace H : (downpourlaw11_DatagramPuts.j0 k t174 t175 (!t178) a0_0 a0_1 a0_2 a0_3 t173) = some r := H
      have A16 := Aside0.mk A160
      clear A160
      have H' := Aside0.mk H
      clear H
      try go_wp2
      have n0_ := Aside0.mk (blk_drew BK172.out)
      have n1_ := Aside0.mk (below_drew1 HB.out)
      clear BK172
      clear HB
      have BK172 := n0_
      have HB := n1_
      clear n0_ n1_
      refine start_ (n := 9) (S := fun w' => w'.cell? ⟨gb172, 0, none⟩ = some (.int .u64 a0_0) ∧ w'.cell? ⟨gb172, 1, none⟩ = some (.int .i64 a0_1) ∧ w'.cell? ⟨gb172, 2, none⟩ = some (.int .i64 a0_2) ∧ w'.cell? ⟨gb172, 3, none⟩ = some (.int .u64 a0_3) ∧ w'.cell? ⟨gb172, 4, none⟩ = some (.string t173)) (ds := []) #[false, false, false, false, false, false, false, false, false] (by kernel_rfl) rfl rfl ⟨(blk_cell BK172.out 0).trans rfl, (blk_cell BK172.out 1).trans rfl, (blk_cell BK172.out 2).trans rfl, (blk_cell BK172.out 3).trans rfl, (blk_cell BK172.out 4).trans rfl⟩ (fun hHeld => ?_); refine with_tabW downpourlaw11_DatagramPuts.tab3 downpourlaw11_DatagramPuts.bits3 (fun HT_ HW_ => ?_)
      generalize w9.drew = w17 at BK172 HB hHeld ⊢
      refine take_ (i := 0) (N := some 16) (v := ?_) (a' := ?_) #[true, false, false, false, false, false, false, false, false] rfl rfl (take_ofW HT_.out HW_.out (by kernel_rfl)) (fun _ _ _ h => h) (Or.inl ⟨by rfl, ?_⟩) hHeld ?_ ?_
      rotate_left
      · rintro w' ⟨s0, s1, s2, s3, s4⟩
        go_simp
        with_reducible rfl
      rotate_left
      · simp only [Act.put, List.setIfInBounds_toArray, List.set_cons_zero, List.set_cons_succ, i64_w, i32_w]
        rfl
      refine take_ (i := 2) (N := some 18) (v := ?_) (a' := ?_) #[true, false, true, false, false, false, false, false, false] rfl rfl (take_ofW HT_.out HW_.out (by kernel_rfl)) (fun _ _ _ h => h) (Or.inl ⟨by rfl, ?_⟩) hHeld ?_ ?_
      rotate_left
      · rintro w' ⟨s0, s1, s2, s3, s4⟩
        go_simp
        with_reducible rfl
      rotate_left
      · simp only [Act.put, List.setIfInBounds_toArray, List.set_cons_zero, List.set_cons_succ, i64_w, i32_w]
        rfl
      refine one_ (i := 1) (N := some 17) #[true, true, true, false, false, false, false, false, false] rfl rfl (one_of HT_.out (by kernel_rfl)) (by decide) (fun K hK => ?_)
      refine goes_ Try.func20 (by kernel_rfl) rfl #[.agg #[.int .u64 a0_0, .int .i64 a0_1, .int .i64 a0_2, .int .u64 a0_3, .string t173]] (by rfl) rfl rfl (by (try simp only [List.map_toArray, List.map_cons, List.map_nil]); first | done | rfl | (simp only [List.length_drop, List.length_take]; rfl)) ?_
      with_reducible refine (datagram_Right.calls a0_0 a0_1 a0_2 a0_3 t173 t176 _ A10.out).mono ?_
      rintro e w18 ⟨rfl, hb⟩
      refine ⟨_, rfl, ?_⟩
      have n0_ := Aside0.mk (blk_below (g := gb172) (o := .cells #[.int .u64 a0_0, .int .i64 a0_1, .int .i64 a0_2, .int .u64 a0_3, .string t173] 39 (0, 0)) (by (with_reducible repeat (first | refine blk_drewN ?_ _ | refine blk_drew ?_ | refine blk_alloc ?_ _)); exact BK172.out) hb)
      have n1_ := Aside0.mk (below_step (by repeat (first | (with_reducible first | exact HB.out | apply below_alloc | apply pw_below_drewN | apply below_drew1 | refine below_set ?_ GE172.out) | exact HB.out)) hb)
      clear BK172
      clear HB
      have BK172 := n0_
      have HB := n1_
      clear n0_ n1_
      (try clear hb)
      (try clear hb2)
      (try clear hk)
      (try clear hi)
      refine hK.out _ _ ⟨(blk_cell BK172.out 0).trans rfl, (blk_cell BK172.out 1).trans rfl, (blk_cell BK172.out 2).trans rfl, (blk_cell BK172.out 3).trans rfl, (blk_cell BK172.out 4).trans rfl⟩ (fun hHeld => ?_)
      clear hK K
      refine norm_ (a' := ?_) ?_ ?_
      rotate_left
      · show Act.put _ (some 17) _ = _
        simp only [Act.put, List.setIfInBounds_toArray, List.set_cons_zero, List.set_cons_succ, i64_w, i32_w]
        rfl
      refine one_ (i := 3) (N := some 19) #[true, true, true, true, false, false, false, false, false] rfl rfl (one_of HT_.out (by kernel_rfl)) (by decide) (fun K hK => ?_)
      refine goes_ Try.func21 (by kernel_rfl) rfl #[.agg #[.int .u64 a0_0, .int .i64 a0_1, .int .i64 a0_2, .int .u64 a0_3, .string t173]] (by rfl) rfl rfl (by (try simp only [List.map_toArray, List.map_cons, List.map_nil]); first | done | rfl | (simp only [List.length_drop, List.length_take]; rfl)) ?_
      with_reducible refine (downpourref11_Right.calls a0_0 a0_1 a0_2 a0_3 t173 t177 _ A11.out).mono ?_
      rintro e w19 ⟨rfl, hb⟩
      refine ⟨_, rfl, ?_⟩
      have n0_ := Aside0.mk (blk_below (g := gb172) (o := .cells #[.int .u64 a0_0, .int .i64 a0_1, .int .i64 a0_2, .int .u64 a0_3, .string t173] 39 (0, 0)) (by (with_reducible repeat (first | refine blk_drewN ?_ _ | refine blk_drew ?_ | refine blk_alloc ?_ _)); exact BK172.out) hb)
      have n1_ := Aside0.mk (below_step (by repeat (first | (with_reducible first | exact HB.out | apply below_alloc | apply pw_below_drewN | apply below_drew1 | refine below_set ?_ GE172.out) | exact HB.out)) hb)
      clear BK172
      clear HB
      have BK172 := n0_
      have HB := n1_
      clear n0_ n1_
      (try clear hb)
      (try clear hb2)
      (try clear hk)
      (try clear hi)
      refine hK.out _ _ ⟨(blk_cell BK172.out 0).trans rfl, (blk_cell BK172.out 1).trans rfl, (blk_cell BK172.out 2).trans rfl, (blk_cell BK172.out 3).trans rfl, (blk_cell BK172.out 4).trans rfl⟩ (fun hHeld => ?_)
      clear hK K
      refine norm_ (a' := ?_) ?_ ?_
      rotate_left
      · show Act.put _ (some 19) _ = _
        simp only [Act.put, List.setIfInBounds_toArray, List.set_cons_zero, List.set_cons_succ, i64_w, i32_w]
        rfl
      refine pure_ (i := 4) (N := some 20) (v := ?_) (a' := ?_) #[true, true, true, true, true, false, false, false, false] rfl rfl (any_of HT_.out (by kernel_rfl)) (fun _ _ _ h => h) (Or.inl ⟨by rfl, ?_⟩) ?_ ?_
      rotate_left
      · intro w'
        go_simp
        with_reducible rfl
      rotate_left
      · simp only [Act.put, List.setIfInBounds_toArray, List.set_cons_zero, List.set_cons_succ, i64_w, i32_w]
        rfl
      refine pure_ (i := 5) (N := some 21) (v := ?_) (a' := ?_) #[true, true, true, true, true, true, false, false, false] rfl rfl (any_of HT_.out (by kernel_rfl)) (fun _ _ _ h => h) (Or.inl ⟨by rfl, ?_⟩) ?_ ?_
      rotate_left
      · intro w'
        go_simp
        with_reducible rfl
      rotate_left
      · simp only [Act.put, List.setIfInBounds_toArray, List.set_cons_zero, List.set_cons_succ, i64_w, i32_w]
        rfl
      refine one_ (i := 6) (N := some 22) #[true, true, true, true, true, true, true, false, false] rfl rfl (one_of HT_.out (by kernel_rfl)) (by decide) (fun K hK => ?_)
      refine goes_ Try.func22 (by kernel_rfl) rfl #[] (by rfl) rfl rfl (by (try simp only [List.map_toArray, List.map_cons, List.map_nil]); first | done | rfl | (simp only [List.length_drop, List.length_take]; rfl)) ?_
      with_reducible refine (downpourlaw11_alive.calls k  t178 _ A16.out).mono ?_
      rintro e w20 ⟨rfl, hb⟩
      refine ⟨_, rfl, ?_⟩
      have n0_ := Aside0.mk (blk_below (g := gb172) (o := .cells #[.int .u64 a0_0, .int .i64 a0_1, .int .i64 a0_2, .int .u64 a0_3, .string t173] 39 (0, 0)) (by (with_reducible repeat (first | refine blk_drewN ?_ _ | refine blk_drew ?_ | refine blk_alloc ?_ _)); exact BK172.out) hb)
      have n1_ := Aside0.mk (below_step (by repeat (first | (with_reducible first | exact HB.out | apply below_alloc | apply pw_below_drewN | apply below_drew1 | refine below_set ?_ GE172.out) | exact HB.out)) hb)
      clear BK172
      clear HB
      have BK172 := n0_
      have HB := n1_
      clear n0_ n1_
      (try clear hb)
      (try clear hb2)
      (try clear hk)
      (try clear hi)
      refine hK.out _ _ ⟨(blk_cell BK172.out 0).trans rfl, (blk_cell BK172.out 1).trans rfl, (blk_cell BK172.out 2).trans rfl, (blk_cell BK172.out 3).trans rfl, (blk_cell BK172.out 4).trans rfl⟩ (fun hHeld => ?_)
      clear hK K
      refine norm_ (a' := ?_) ?_ ?_
      rotate_left
      · show Act.put _ (some 22) _ = _
        simp only [Act.put, List.setIfInBounds_toArray, List.set_cons_zero, List.set_cons_succ, i64_w, i32_w]
        rfl
      refine pure_ (i := 7) (N := some 23) (v := ?_) (a' := ?_) #[true, true, true, true, true, true, true, true, false] rfl rfl (any_of HT_.out (by kernel_rfl)) (fun _ _ _ h => h) (Or.inl ⟨by rfl, ?_⟩) ?_ ?_
      rotate_left
      · intro w'
        go_simp
        with_reducible rfl
      rotate_left
      · simp only [Act.put, List.setIfInBounds_toArray, List.set_cons_zero, List.set_cons_succ, i64_w, i32_w]
        rfl
      refine pure_ (i := 8) (N := some 24) (v := ?_) (a' := ?_) #[true, true, true, true, true, true, true, true, true] rfl rfl (any_of HT_.out (by kernel_rfl)) (fun _ _ _ h => h) (Or.inl ⟨by rfl, ?_⟩) ?_ ?_
      rotate_left
      · intro w'
        go_simp
        with_reducible rfl
      rotate_left
      · simp only [Act.put, List.setIfInBounds_toArray, List.set_cons_zero, List.set_cons_succ, i64_w, i32_w]
        rfl
      refine done_ (done_of HT_.out (by kernel_rfl)) ?_
      try go_wp2
      go_meet
      case rel => exact ⟨_, (!t178), (by first | rfl | (simp; done) | (simp [*]; done)), H', ⟨by first | omega | exact Nat.le_refl _⟩, ⟨by (with_reducible repeat (first | refine blk_drewN ?_ _ | refine blk_drew ?_ | refine blk_alloc ?_ _)); exact BK172.out⟩, ⟨by repeat (first | (with_reducible first | exact HB.out | apply below_alloc | apply pw_below_drewN | apply below_drew1 | refine below_set ?_ GE172.out) | exact HB.out)⟩⟩
  case rest =>
    clear HC4
    try clear c1
    try clear c2
    try clear p2
    try clear c7
    try clear c12
    try clear c12b0
    try clear c12b1
    try clear c12b2
    try clear c18
    try clear c19
    try clear c20
    try clear hcz6_0
    try clear hcz6_1
    try clear hcz6_2
    try clear hcz6_3
    try clear hcz6_4
    try clear hcz8_0
    try clear hcz8_1
    try clear hcz8_2
    try clear hcz8_3
    try clear hcz8_4
    try clear hfz6_0
    try clear hfz6_1
    try clear hfz6_2
    try clear hfz6_3
    try clear hfz6_4
    try clear hfz8_0
    try clear hfz8_1
    try clear hfz8_2
    try clear hfz8_3
    try clear hfz8_4
    obtain ⟨kq, x24_3, rfl, HA, HJ3, BK172, HB⟩ := hcut
    cases kq with
    | zero => exact absurd HA.out (by simp [downpourlaw11_DatagramPuts.j0])
    | succ kj3 =>
      have H := HA.out
      clear HA
      simp only [downpourlaw11_DatagramPuts.j0] at H
      by_cases c21 : x24_3 = true
      · subst c21
        have H1 : (some false) = some r := by rw [if_pos rfl] at H; exact H
        clear H
        have H := H1
        clear H1
        obtain rfl := Option.some.inj H
        go_wp2
        go_ret
        exact ⟨by first | rfl | (simp [errW_none, errW_some] <;> rfl) | (simp [*, errW_none, errW_some] <;> rfl), by repeat (first | (with_reducible first | exact HB.out | apply below_alloc | apply pw_below_drewN | apply below_drew1 | refine below_set ?_ GE172.out) | exact HB.out)⟩
      · replace c21 := Bool.eq_false_iff.mpr c21
        subst c21
        have H1 : ((downpourref11_Right.f a0_0 a0_1 a0_2 a0_3 t173).bind fun t179 => (if t179 = true then (if t175 = 0 then ((downpourref11_Put.f kj3 a0_0 a0_1 a0_2 a0_3 t173).bind fun t180 => (some (t174.toList == t180.toList))) else (some false)) else (if t175 = 1 then (some (t174.toList == ([] : List UInt8))) else (some false)))) = some r := by rw [if_neg (show ¬ (false = true) by decide)] at H; exact H
        clear H
        have H := H1
        clear H1
        replace H := Option.bind_eq_some_iff.mp H
        obtain ⟨t179, A220, H⟩ := H
        replace H : (if t179 = true then (if t175 = 0 then ((downpourref11_Put.f kj3 a0_0 a0_1 a0_2 a0_3 t173).bind fun t180 => (some (t174.toList == t180.toList))) else (some false)) else (if t175 = 1 then (some (t174.toList == ([] : List UInt8))) else (some false))) = some r := H
        have A22 := Aside0.mk A220
        clear A220
        by_cases c23 : t179 = true
        · subst c23
          have H1 : (if t175 = 0 then ((downpourref11_Put.f kj3 a0_0 a0_1 a0_2 a0_3 t173).bind fun t180 => (some (t174.toList == t180.toList))) else (some false)) = some r := by rw [if_pos rfl] at H; exact H
          clear H
          have H := H1
          clear H1
          by_cases c24 : t175 = 0
          · rw [if_pos c24] at H
            have c24b0 : (t175 == 0) = true := beq_iff_eq.mpr c24
            have c24b1 : (t175 != 0) = false := bne_eq_false_iff_eq.mpr c24
            clear c24
            replace H := Option.bind_eq_some_iff.mp H
            obtain ⟨t180, A250, H⟩ := H
            replace H : (some (t174.toList == t180.toList)) = some r := H
            have A25 := Aside0.mk A250
            clear A250
            obtain rfl := Option.some.inj H
            have hcz26_0 : wc.cell? ⟨gb172, 0, none⟩ = some (.int .u64 a0_0) := (blk_cell BK172.out 0).trans rfl
            have hcz26_1 : wc.cell? ⟨gb172, 1, none⟩ = some (.int .i64 a0_1) := (blk_cell BK172.out 1).trans rfl
            have hcz26_2 : wc.cell? ⟨gb172, 2, none⟩ = some (.int .i64 a0_2) := (blk_cell BK172.out 2).trans rfl
            have hcz26_3 : wc.cell? ⟨gb172, 3, none⟩ = some (.int .u64 a0_3) := (blk_cell BK172.out 3).trans rfl
            have hcz26_4 : wc.cell? ⟨gb172, 4, none⟩ = some (.string t173) := (blk_cell BK172.out 4).trans rfl
            have hfz26_0 := blk_frozen BK172.out 0
            have hfz26_1 := blk_frozen BK172.out 1
            have hfz26_2 := blk_frozen BK172.out 2
            have hfz26_3 := blk_frozen BK172.out 3
            have hfz26_4 := blk_frozen BK172.out 4
            go_wp2_with (first | ((with_reducible refine gate_callee (f := 21) rfl ?_); refine goesL_ (some 26) rfl rfl Try.func21 (by kernel_rfl) rfl #[.agg #[.int .u64 a0_0, .int .i64 a0_1, .int .i64 a0_2, .int .u64 a0_3, .string t173]] rfl (by (try simp only [List.map_toArray, List.map_cons, List.map_nil]); first | done | rfl | (simp only [List.length_drop, List.length_take]; rfl)) ?_; (with_reducible refine (downpourref11_Right.calls a0_0 a0_1 a0_2 a0_3 t173 true _ A22.out).mono ?_); rintro e w27 ⟨rfl, hb⟩; refine ⟨_, rfl, ?_⟩; have n0_ := Aside0.mk (blk_below (g := gb172) (o := .cells #[.int .u64 a0_0, .int .i64 a0_1, .int .i64 a0_2, .int .u64 a0_3, .string t173] 39 (0, 0)) (by (with_reducible repeat (first | refine blk_drewN ?_ _ | refine blk_drew ?_ | refine blk_alloc ?_ _)); exact BK172.out) hb); have n1_ := Aside0.mk (below_step (by repeat (first | (with_reducible first | exact HB.out | apply below_alloc | apply pw_below_drewN | apply below_drew1 | refine below_set ?_ GE172.out) | exact HB.out)) hb); clear BK172; clear HB; have BK172 := n0_; have HB := n1_; clear n0_ n1_; (try clear hb); (try clear hb2); (try clear hk); (try clear hi); have hcz28_0 : w27.cell? ⟨gb172, 0, none⟩ = some (.int .u64 a0_0) := (blk_cell BK172.out 0).trans rfl; have hcz28_1 : w27.cell? ⟨gb172, 1, none⟩ = some (.int .i64 a0_1) := (blk_cell BK172.out 1).trans rfl; have hcz28_2 : w27.cell? ⟨gb172, 2, none⟩ = some (.int .i64 a0_2) := (blk_cell BK172.out 2).trans rfl; have hcz28_3 : w27.cell? ⟨gb172, 3, none⟩ = some (.int .u64 a0_3) := (blk_cell BK172.out 3).trans rfl; have hcz28_4 : w27.cell? ⟨gb172, 4, none⟩ = some (.string t173) := (blk_cell BK172.out 4).trans rfl; have hfz28_0 := blk_frozen BK172.out 0; have hfz28_1 := blk_frozen BK172.out 1; have hfz28_2 := blk_frozen BK172.out 2; have hfz28_3 := blk_frozen BK172.out 3; have hfz28_4 := blk_frozen BK172.out 4) | (go_at_call 23; (with_reducible refine (downpourref11_Put.calls kj3 a0_0 a0_1 a0_2 a0_3 t173 t180 _ A25.out).mono ?_); rintro e w29 ⟨rfl, hb⟩; have n0_ := Aside0.mk (blk_below (g := gb172) (o := .cells #[.int .u64 a0_0, .int .i64 a0_1, .int .i64 a0_2, .int .u64 a0_3, .string t173] 39 (0, 0)) (by (with_reducible repeat (first | refine blk_drewN ?_ _ | refine blk_drew ?_ | refine blk_alloc ?_ _)); exact BK172.out) hb); have n1_ := Aside0.mk (below_step (by repeat (first | (with_reducible first | exact HB.out | apply below_alloc | apply pw_below_drewN | apply below_drew1 | refine below_set ?_ GE172.out) | exact HB.out)) hb); clear BK172; clear HB; have BK172 := n0_; have HB := n1_; clear n0_ n1_; (try clear hb); (try clear hb2); (try clear hk); (try clear hi)))
            go_ret
            exact ⟨by first | rfl | (simp [errW_none, errW_some] <;> rfl) | (simp [*, errW_none, errW_some] <;> rfl), by repeat (first | (with_reducible first | exact HB.out | apply below_alloc | apply pw_below_drewN | apply below_drew1 | refine below_set ?_ GE172.out) | exact HB.out)⟩
          · rw [if_neg c24] at H
            have c24b0 : (t175 == 0) = false := beq_eq_false_iff_ne.mpr c24
            have c24b1 : (t175 != 0) = true := bne_iff_ne.mpr c24
            obtain rfl := Option.some.inj H
            have hcz30_0 : wc.cell? ⟨gb172, 0, none⟩ = some (.int .u64 a0_0) := (blk_cell BK172.out 0).trans rfl
            have hcz30_1 : wc.cell? ⟨gb172, 1, none⟩ = some (.int .i64 a0_1) := (blk_cell BK172.out 1).trans rfl
            have hcz30_2 : wc.cell? ⟨gb172, 2, none⟩ = some (.int .i64 a0_2) := (blk_cell BK172.out 2).trans rfl
            have hcz30_3 : wc.cell? ⟨gb172, 3, none⟩ = some (.int .u64 a0_3) := (blk_cell BK172.out 3).trans rfl
            have hcz30_4 : wc.cell? ⟨gb172, 4, none⟩ = some (.string t173) := (blk_cell BK172.out 4).trans rfl
            have hfz30_0 := blk_frozen BK172.out 0
            have hfz30_1 := blk_frozen BK172.out 1
            have hfz30_2 := blk_frozen BK172.out 2
            have hfz30_3 := blk_frozen BK172.out 3
            have hfz30_4 := blk_frozen BK172.out 4
            go_wp2_with (first | ((with_reducible refine gate_callee (f := 21) rfl ?_); refine goesL_ (some 26) rfl rfl Try.func21 (by kernel_rfl) rfl #[.agg #[.int .u64 a0_0, .int .i64 a0_1, .int .i64 a0_2, .int .u64 a0_3, .string t173]] rfl (by (try simp only [List.map_toArray, List.map_cons, List.map_nil]); first | done | rfl | (simp only [List.length_drop, List.length_take]; rfl)) ?_; (with_reducible refine (downpourref11_Right.calls a0_0 a0_1 a0_2 a0_3 t173 true _ A22.out).mono ?_); rintro e w31 ⟨rfl, hb⟩; refine ⟨_, rfl, ?_⟩; have n0_ := Aside0.mk (blk_below (g := gb172) (o := .cells #[.int .u64 a0_0, .int .i64 a0_1, .int .i64 a0_2, .int .u64 a0_3, .string t173] 39 (0, 0)) (by (with_reducible repeat (first | refine blk_drewN ?_ _ | refine blk_drew ?_ | refine blk_alloc ?_ _)); exact BK172.out) hb); have n1_ := Aside0.mk (below_step (by repeat (first | (with_reducible first | exact HB.out | apply below_alloc | apply pw_below_drewN | apply below_drew1 | refine below_set ?_ GE172.out) | exact HB.out)) hb); clear BK172; clear HB; have BK172 := n0_; have HB := n1_; clear n0_ n1_; (try clear hb); (try clear hb2); (try clear hk); (try clear hi)))
            go_ret
            exact ⟨by first | rfl | (simp [errW_none, errW_some] <;> rfl) | (simp [*, errW_none, errW_some] <;> rfl), by repeat (first | (with_reducible first | exact HB.out | apply below_alloc | apply pw_below_drewN | apply below_drew1 | refine below_set ?_ GE172.out) | exact HB.out)⟩
        · replace c23 := Bool.eq_false_iff.mpr c23
          subst c23
          have H1 : (if t175 = 1 then (some (t174.toList == ([] : List UInt8))) else (some false)) = some r := by rw [if_neg (show ¬ (false = true) by decide)] at H; exact H
          clear H
          have H := H1
          clear H1
          by_cases c32 : t175 = 1
          · rw [if_pos c32] at H
            have c32b0 : (t175 == 1) = true := beq_iff_eq.mpr c32
            have c32b1 : (t175 != 1) = false := bne_eq_false_iff_eq.mpr c32
            clear c32
            obtain rfl := Option.some.inj H
            have hcz33_0 : wc.cell? ⟨gb172, 0, none⟩ = some (.int .u64 a0_0) := (blk_cell BK172.out 0).trans rfl
            have hcz33_1 : wc.cell? ⟨gb172, 1, none⟩ = some (.int .i64 a0_1) := (blk_cell BK172.out 1).trans rfl
            have hcz33_2 : wc.cell? ⟨gb172, 2, none⟩ = some (.int .i64 a0_2) := (blk_cell BK172.out 2).trans rfl
            have hcz33_3 : wc.cell? ⟨gb172, 3, none⟩ = some (.int .u64 a0_3) := (blk_cell BK172.out 3).trans rfl
            have hcz33_4 : wc.cell? ⟨gb172, 4, none⟩ = some (.string t173) := (blk_cell BK172.out 4).trans rfl
            have hfz33_0 := blk_frozen BK172.out 0
            have hfz33_1 := blk_frozen BK172.out 1
            have hfz33_2 := blk_frozen BK172.out 2
            have hfz33_3 := blk_frozen BK172.out 3
            have hfz33_4 := blk_frozen BK172.out 4
            go_wp2_with (first | ((with_reducible refine gate_callee (f := 21) rfl ?_); refine goesL_ (some 26) rfl rfl Try.func21 (by kernel_rfl) rfl #[.agg #[.int .u64 a0_0, .int .i64 a0_1, .int .i64 a0_2, .int .u64 a0_3, .string t173]] rfl (by (try simp only [List.map_toArray, List.map_cons, List.map_nil]); first | done | rfl | (simp only [List.length_drop, List.length_take]; rfl)) ?_; (with_reducible refine (downpourref11_Right.calls a0_0 a0_1 a0_2 a0_3 t173 false _ A22.out).mono ?_); rintro e w34 ⟨rfl, hb⟩; refine ⟨_, rfl, ?_⟩; have n0_ := Aside0.mk (blk_below (g := gb172) (o := .cells #[.int .u64 a0_0, .int .i64 a0_1, .int .i64 a0_2, .int .u64 a0_3, .string t173] 39 (0, 0)) (by (with_reducible repeat (first | refine blk_drewN ?_ _ | refine blk_drew ?_ | refine blk_alloc ?_ _)); exact BK172.out) hb); have n1_ := Aside0.mk (below_step (by repeat (first | (with_reducible first | exact HB.out | apply below_alloc | apply pw_below_drewN | apply below_drew1 | refine below_set ?_ GE172.out) | exact HB.out)) hb); clear BK172; clear HB; have BK172 := n0_; have HB := n1_; clear n0_ n1_; (try clear hb); (try clear hb2); (try clear hk); (try clear hi)))
            go_ret
            exact ⟨by first | rfl | (simp [errW_none, errW_some] <;> rfl) | (simp [*, errW_none, errW_some] <;> rfl), by repeat (first | (with_reducible first | exact HB.out | apply below_alloc | apply pw_below_drewN | apply below_drew1 | refine below_set ?_ GE172.out) | exact HB.out)⟩
          · rw [if_neg c32] at H
            have c32b0 : (t175 == 1) = false := beq_eq_false_iff_ne.mpr c32
            have c32b1 : (t175 != 1) = true := bne_iff_ne.mpr c32
            obtain rfl := Option.some.inj H
            have hcz35_0 : wc.cell? ⟨gb172, 0, none⟩ = some (.int .u64 a0_0) := (blk_cell BK172.out 0).trans rfl
            have hcz35_1 : wc.cell? ⟨gb172, 1, none⟩ = some (.int .i64 a0_1) := (blk_cell BK172.out 1).trans rfl
            have hcz35_2 : wc.cell? ⟨gb172, 2, none⟩ = some (.int .i64 a0_2) := (blk_cell BK172.out 2).trans rfl
            have hcz35_3 : wc.cell? ⟨gb172, 3, none⟩ = some (.int .u64 a0_3) := (blk_cell BK172.out 3).trans rfl
            have hcz35_4 : wc.cell? ⟨gb172, 4, none⟩ = some (.string t173) := (blk_cell BK172.out 4).trans rfl
            have hfz35_0 := blk_frozen BK172.out 0
            have hfz35_1 := blk_frozen BK172.out 1
            have hfz35_2 := blk_frozen BK172.out 2
            have hfz35_3 := blk_frozen BK172.out 3
            have hfz35_4 := blk_frozen BK172.out 4
            go_wp2_with (first | ((with_reducible refine gate_callee (f := 21) rfl ?_); refine goesL_ (some 26) rfl rfl Try.func21 (by kernel_rfl) rfl #[.agg #[.int .u64 a0_0, .int .i64 a0_1, .int .i64 a0_2, .int .u64 a0_3, .string t173]] rfl (by (try simp only [List.map_toArray, List.map_cons, List.map_nil]); first | done | rfl | (simp only [List.length_drop, List.length_take]; rfl)) ?_; (with_reducible refine (downpourref11_Right.calls a0_0 a0_1 a0_2 a0_3 t173 false _ A22.out).mono ?_); rintro e w36 ⟨rfl, hb⟩; refine ⟨_, rfl, ?_⟩; have n0_ := Aside0.mk (blk_below (g := gb172) (o := .cells #[.int .u64 a0_0, .int .i64 a0_1, .int .i64 a0_2, .int .u64 a0_3, .string t173] 39 (0, 0)) (by (with_reducible repeat (first | refine blk_drewN ?_ _ | refine blk_drew ?_ | refine blk_alloc ?_ _)); exact BK172.out) hb); have n1_ := Aside0.mk (below_step (by repeat (first | (with_reducible first | exact HB.out | apply below_alloc | apply pw_below_drewN | apply below_drew1 | refine below_set ?_ GE172.out) | exact HB.out)) hb); clear BK172; clear HB; have BK172 := n0_; have HB := n1_; clear n0_ n1_; (try clear hb); (try clear hb2); (try clear hk); (try clear hi)))
            go_ret
            exact ⟨by first | rfl | (simp [errW_none, errW_some] <;> rfl) | (simp [*, errW_none, errW_some] <;> rfl), by repeat (first | (with_reducible first | exact HB.out | apply below_alloc | apply pw_below_drewN | apply below_drew1 | refine below_set ?_ GE172.out) | exact HB.out)⟩

end Go.Proofs.Ytfbngnplpoepjaa.P

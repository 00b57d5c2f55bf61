/- Functions and their contracts, printed by stubprint.py (a program of this repo, which runs the kit's print with some functions proved by hand): each call answers what the plain function tells. -/
import Derived.Test.YtjgcfdiicjbdoaaQx0
namespace Go.Proofs.Ytjgcfdiicjbdoaa.Q
open Go.Proofs.Ytjgcfdiicjbdoaa.Own Go.Proofs.Ytjgcfdiicjbdoaa.Pure Go.Proofs.Ytjgcfdiicjbdoaa.P
open Go.RowKit Go.Proofs.YtjgcfdiicjbdoaaW.PrintWords Go.Proofs.YtjgcfdiicjbdoaaW.PrintLast Go.Proofs.YtjgcfdiicjbdoaaW.PrintMore
attribute [local go_sem] max2_int min2_int max_two min_two max_three min_three max_four min_four   -- for this text's walks alone
set_option linter.unusedVariables false
set_option linter.unusedSimpArgs false

/-! ### downpourlaw07_DegreeSums: function 6 -/
mutual
def downpourlaw07_DegreeSums.j0 : Nat → Int → List Int → List Int → Bool → Option (Bool)
  | 0, _, _, _, _ => none
  | k + 1, x0, x5, x7, x76 => if x76 = true then (some false) else (downpourlaw07_DegreeSums.l0 k x0 x7 0 x5 (x5.length : Int) 0)
def downpourlaw07_DegreeSums.l0 : Nat → Int → List Int → Int → List Int → Int → Int → Option (Bool)
  | 0, _, _, _, _, _, _ => none
  | k + 1, x0, x7, x11, x77, x78, x79 => if x79 < x78 then (if 0 ≤ x79 then (if x79 < (x77.length : Int) then (if x79 < (x7.length : Int) then ((degree_Pick.f x7 (IntKind.u64.wrap ((rd x7 x79) - 1))).bind fun bt137 => ((degree_Pick.f x7 (rd x7 x79)).bind fun bt140 => (if x79 = (wrap64 (x0 - 1)) then (if (rd x77 x79) = 0 then (some false) else (if (rd x7 x79) = (IntKind.u64.wrap (x11 + (rd x77 x79))) then (if bt137.2 = 0 then (if bt140.2 = 0 then (if bt137.1 = (wrap64 (x79 + 1)) then (if bt140.1 = 1 then (downpourlaw07_DegreeSums.l0 k x0 x7 (IntKind.u64.wrap (x11 + (rd x77 x79))) x77 x78 (wrap64 (x79 + 1))) else (some false)) else (some false)) else (some false)) else (some false)) else (some false))) else (if (rd x77 x79) = 0 then (some false) else (if (rd x7 x79) = (IntKind.u64.wrap (x11 + (rd x77 x79))) then (if bt137.2 = 0 then (if bt140.2 = 0 then (if bt137.1 = (wrap64 (x79 + 1)) then (if bt140.1 = (wrap64 (x79 + 2)) then (downpourlaw07_DegreeSums.l0 k x0 x7 (IntKind.u64.wrap (x11 + (rd x77 x79))) x77 x78 (wrap64 (x79 + 1))) else (some false)) else (some false)) else (some false)) else (some false)) else (some false)))))) else (none)) else (none)) else (none)) else ((degree_Root.f k x0).bind fun bt133 => (if bt133.2 = 0 then (if (wrap64 (bt133.1 * bt133.1)) ≤ x0 then (some (decide ((wrap64 ((wrap64 (bt133.1 + 1)) * (wrap64 (bt133.1 + 1)))) > x0))) else (some false)) else (some false)))
end
def downpourlaw07_DegreeSums.f (k : Nat) (a0 : Int) (a1 : Int) : Option (Bool) := (degree_Weights.f (wrap64 ((Int.tmod (wrap64 ((Int.tmod a0 64) + 64)) 64) + 1))).bind fun bt122 => ((degree_Table.f (wrap64 ((Int.tmod (wrap64 ((Int.tmod a0 64) + 64)) 64) + 1))).bind fun bt126 => ((degree_Pick.f bt126.1 a1).bind fun bt130 => (if bt122.2 = 0 then (if bt126.2 = 0 then (if bt130.2 = 0 then (if (bt122.1.length : Int) = (wrap64 ((Int.tmod (wrap64 ((Int.tmod a0 64) + 64)) 64) + 1)) then (if (bt126.1.length : Int) = (wrap64 ((Int.tmod (wrap64 ((Int.tmod a0 64) + 64)) 64) + 1)) then (if bt130.1 < 1 then (downpourlaw07_DegreeSums.j0 k (wrap64 ((Int.tmod (wrap64 ((Int.tmod a0 64) + 64)) 64) + 1)) bt122.1 bt126.1 true) else (if bt130.1 > (wrap64 ((Int.tmod (wrap64 ((Int.tmod a0 64) + 64)) 64) + 1)) then (downpourlaw07_DegreeSums.j0 k (wrap64 ((Int.tmod (wrap64 ((Int.tmod a0 64) + 64)) 64) + 1)) bt122.1 bt126.1 true) else ((downpourlaw07_alive.f).bind fun t132 => (downpourlaw07_DegreeSums.j0 k (wrap64 ((Int.tmod (wrap64 ((Int.tmod a0 64) + 64)) 64) + 1)) bt122.1 bt126.1 (!t132))))) else (downpourlaw07_DegreeSums.j0 k (wrap64 ((Int.tmod (wrap64 ((Int.tmod a0 64) + 64)) 64) + 1)) bt122.1 bt126.1 true)) else (downpourlaw07_DegreeSums.j0 k (wrap64 ((Int.tmod (wrap64 ((Int.tmod a0 64) + 64)) 64) + 1)) bt122.1 bt126.1 true)) else (downpourlaw07_DegreeSums.j0 k (wrap64 ((Int.tmod (wrap64 ((Int.tmod a0 64) + 64)) 64) + 1)) bt122.1 bt126.1 true)) else (downpourlaw07_DegreeSums.j0 k (wrap64 ((Int.tmod (wrap64 ((Int.tmod a0 64) + 64)) 64) + 1)) bt122.1 bt126.1 true)) else (downpourlaw07_DegreeSums.j0 k (wrap64 ((Int.tmod (wrap64 ((Int.tmod a0 64) + 64)) 64) + 1)) bt122.1 bt126.1 true))))
theorem downpourlaw07_DegreeSums.mono_l : ∀ k, (∀ y0 y1 y2 y3, LeO (downpourlaw07_DegreeSums.j0 k y0 y1 y2 y3) (downpourlaw07_DegreeSums.j0 (k + 1) y0 y1 y2 y3)) ∧ (∀ y0 y1 y2 y3 y4 y5, LeO (downpourlaw07_DegreeSums.l0 k y0 y1 y2 y3 y4 y5) (downpourlaw07_DegreeSums.l0 (k + 1) y0 y1 y2 y3 y4 y5))
  | 0 => ⟨fun _ _ _ _ r h => by simp [downpourlaw07_DegreeSums.j0] at h, fun _ _ _ _ _ _ r h => by simp [downpourlaw07_DegreeSums.l0] at h⟩
  | k + 1 => by
    obtain ⟨ih0, ih1⟩ := downpourlaw07_DegreeSums.mono_l k
    refine ⟨?_, ?_⟩
    · intro y0 y1 y2 y3
      unfold downpourlaw07_DegreeSums.j0
      repeat' first
      | (with_reducible exact ih0 _ _ _ _)
      | (with_reducible exact ih1 _ _ _ _ _ _)
      | (with_reducible exact degree_Root.mono _ _)
      | (with_reducible exact LeO.refl _)
      | (with_reducible exact LeO.none _)
      | (with_reducible refine LeO.ite ?_ ?_)
      | (with_reducible refine LeO.bind ?_ (fun _ => ?_))
      | exact ih0 _ _ _ _
      | exact ih1 _ _ _ _ _ _
      | exact degree_Root.mono _ _
      | exact LeO.none _
      | refine LeO.ite ?_ ?_
      | refine LeO.bind ?_ (fun _ => ?_)
    · intro y0 y1 y2 y3 y4 y5
      unfold downpourlaw07_DegreeSums.l0
      repeat' first
      | (with_reducible exact ih0 _ _ _ _)
      | (with_reducible exact ih1 _ _ _ _ _ _)
      | (with_reducible exact degree_Root.mono _ _)
      | (with_reducible exact LeO.refl _)
      | (with_reducible exact LeO.none _)
      | (with_reducible refine LeO.ite ?_ ?_)
      | (with_reducible refine LeO.bind ?_ (fun _ => ?_))
      | exact ih0 _ _ _ _
      | exact ih1 _ _ _ _ _ _
      | exact degree_Root.mono _ _
      | exact LeO.none _
      | refine LeO.ite ?_ ?_
      | refine LeO.bind ?_ (fun _ => ?_)
theorem downpourlaw07_DegreeSums.mono : ∀ a0 a1 k, LeO (downpourlaw07_DegreeSums.f k a0 a1) (downpourlaw07_DegreeSums.f (k + 1) a0 a1) := by
  intro a0 a1 k
  obtain ⟨ih0, ih1⟩ := downpourlaw07_DegreeSums.mono_l k
  unfold downpourlaw07_DegreeSums.f
  repeat' first
      | (with_reducible exact ih0 _ _ _ _)
      | (with_reducible exact ih1 _ _ _ _ _ _)
      | (with_reducible exact degree_Root.mono _ _)
      | (with_reducible exact LeO.refl _)
      | (with_reducible exact LeO.none _)
      | (with_reducible refine LeO.ite ?_ ?_)
      | (with_reducible refine LeO.bind ?_ (fun _ => ?_))
      | exact ih0 _ _ _ _
      | exact ih1 _ _ _ _ _ _
      | exact degree_Root.mono _ _
      | exact LeO.none _
      | refine LeO.ite ?_ ?_
      | refine LeO.bind ?_ (fun _ => ?_)
set_option maxHeartbeats 8000000 in
set_option maxRecDepth 100000 in
theorem downpourlaw07_DegreeSums.calls (k : Nat) (a0 : Int) (a1 : Int) (r : Bool) (w : World) (h : downpourlaw07_DegreeSums.f k a0 a1 = some r) :
    Calls Try.prog 6 #[.int .i64 a0, .int .u64 a1] w fun e w' => e = .returned (.bool r) ∧ Below w.heap.size w w' := by
  have HB := Aside0.mk (Below.refl w.heap.size w)
  have H : ((degree_Weights.f (wrap64 ((Int.tmod (wrap64 ((Int.tmod a0 64) + 64)) 64) + 1))).bind fun bt122 => ((degree_Table.f (wrap64 ((Int.tmod (wrap64 ((Int.tmod a0 64) + 64)) 64) + 1))).bind fun bt126 => ((degree_Pick.f bt126.1 a1).bind fun bt130 => (if bt122.2 = 0 then (if bt126.2 = 0 then (if bt130.2 = 0 then (if (bt122.1.length : Int) = (wrap64 ((Int.tmod (wrap64 ((Int.tmod a0 64) + 64)) 64) + 1)) then (if (bt126.1.length : Int) = (wrap64 ((Int.tmod (wrap64 ((Int.tmod a0 64) + 64)) 64) + 1)) then (if bt130.1 < 1 then (downpourlaw07_DegreeSums.j0 k (wrap64 ((Int.tmod (wrap64 ((Int.tmod a0 64) + 64)) 64) + 1)) bt122.1 bt126.1 true) else (if bt130.1 > (wrap64 ((Int.tmod (wrap64 ((Int.tmod a0 64) + 64)) 64) + 1)) then (downpourlaw07_DegreeSums.j0 k (wrap64 ((Int.tmod (wrap64 ((Int.tmod a0 64) + 64)) 64) + 1)) bt122.1 bt126.1 true) else ((downpourlaw07_alive.f).bind fun t132 => (downpourlaw07_DegreeSums.j0 k (wrap64 ((Int.tmod (wrap64 ((Int.tmod a0 64) + 64)) 64) + 1)) bt122.1 bt126.1 (!t132))))) else (downpourlaw07_DegreeSums.j0 k (wrap64 ((Int.tmod (wrap64 ((Int.tmod a0 64) + 64)) 64) + 1)) bt122.1 bt126.1 true)) else (downpourlaw07_DegreeSums.j0 k (wrap64 ((Int.tmod (wrap64 ((Int.tmod a0 64) + 64)) 64) + 1)) bt122.1 bt126.1 true)) else (downpourlaw07_DegreeSums.j0 k (wrap64 ((Int.tmod (wrap64 ((Int.tmod a0 64) + 64)) 64) + 1)) bt122.1 bt126.1 true)) else (downpourlaw07_DegreeSums.j0 k (wrap64 ((Int.tmod (wrap64 ((Int.tmod a0 64) + 64)) 64) + 1)) bt122.1 bt126.1 true)) else (downpourlaw07_DegreeSums.j0 k (wrap64 ((Int.tmod (wrap64 ((Int.tmod a0 64) + 64)) 64) + 1)) bt122.1 bt126.1 true))))) = some r := h
  clear h
  replace H := Option.bind_eq_some_iff.mp H
  obtain ⟨⟨t122, t123⟩, A30, H⟩ := H
  replace H : ((degree_Table.f (wrap64 ((Int.tmod (wrap64 ((Int.tmod a0 64) + 64)) 64) + 1))).bind fun bt126 => ((degree_Pick.f bt126.1 a1).bind fun bt130 => (if t123 = 0 then (if bt126.2 = 0 then (if bt130.2 = 0 then (if (t122.length : Int) = (wrap64 ((Int.tmod (wrap64 ((Int.tmod a0 64) + 64)) 64) + 1)) then (if (bt126.1.length : Int) = (wrap64 ((Int.tmod (wrap64 ((Int.tmod a0 64) + 64)) 64) + 1)) then (if bt130.1 < 1 then (downpourlaw07_DegreeSums.j0 k (wrap64 ((Int.tmod (wrap64 ((Int.tmod a0 64) + 64)) 64) + 1)) t122 bt126.1 true) else (if bt130.1 > (wrap64 ((Int.tmod (wrap64 ((Int.tmod a0 64) + 64)) 64) + 1)) then (downpourlaw07_DegreeSums.j0 k (wrap64 ((Int.tmod (wrap64 ((Int.tmod a0 64) + 64)) 64) + 1)) t122 bt126.1 true) else ((downpourlaw07_alive.f).bind fun t132 => (downpourlaw07_DegreeSums.j0 k (wrap64 ((Int.tmod (wrap64 ((Int.tmod a0 64) + 64)) 64) + 1)) t122 bt126.1 (!t132))))) else (downpourlaw07_DegreeSums.j0 k (wrap64 ((Int.tmod (wrap64 ((Int.tmod a0 64) + 64)) 64) + 1)) t122 bt126.1 true)) else (downpourlaw07_DegreeSums.j0 k (wrap64 ((Int.tmod (wrap64 ((Int.tmod a0 64) + 64)) 64) + 1)) t122 bt126.1 true)) else (downpourlaw07_DegreeSums.j0 k (wrap64 ((Int.tmod (wrap64 ((Int.tmod a0 64) + 64)) 64) + 1)) t122 bt126.1 true)) else (downpourlaw07_DegreeSums.j0 k (wrap64 ((Int.tmod (wrap64 ((Int.tmod a0 64) + 64)) 64) + 1)) t122 bt126.1 true)) else (downpourlaw07_DegreeSums.j0 k (wrap64 ((Int.tmod (wrap64 ((Int.tmod a0 64) + 64)) 64) + 1)) t122 bt126.1 true)))) = some r := H
  have A3 := Aside0.mk A30
  clear A30
  replace H := Option.bind_eq_some_iff.mp H
  obtain ⟨⟨t126, t127⟩, A40, H⟩ := H
  replace H : ((degree_Pick.f t126 a1).bind fun bt130 => (if t123 = 0 then (if t127 = 0 then (if bt130.2 = 0 then (if (t122.length : Int) = (wrap64 ((Int.tmod (wrap64 ((Int.tmod a0 64) + 64)) 64) + 1)) then (if (t126.length : Int) = (wrap64 ((Int.tmod (wrap64 ((Int.tmod a0 64) + 64)) 64) + 1)) then (if bt130.1 < 1 then (downpourlaw07_DegreeSums.j0 k (wrap64 ((Int.tmod (wrap64 ((Int.tmod a0 64) + 64)) 64) + 1)) t122 t126 true) else (if bt130.1 > (wrap64 ((Int.tmod (wrap64 ((Int.tmod a0 64) + 64)) 64) + 1)) then (downpourlaw07_DegreeSums.j0 k (wrap64 ((Int.tmod (wrap64 ((Int.tmod a0 64) + 64)) 64) + 1)) t122 t126 true) else ((downpourlaw07_alive.f).bind fun t132 => (downpourlaw07_DegreeSums.j0 k (wrap64 ((Int.tmod (wrap64 ((Int.tmod a0 64) + 64)) 64) + 1)) t122 t126 (!t132))))) else (downpourlaw07_DegreeSums.j0 k (wrap64 ((Int.tmod (wrap64 ((Int.tmod a0 64) + 64)) 64) + 1)) t122 t126 true)) else (downpourlaw07_DegreeSums.j0 k (wrap64 ((Int.tmod (wrap64 ((Int.tmod a0 64) + 64)) 64) + 1)) t122 t126 true)) else (downpourlaw07_DegreeSums.j0 k (wrap64 ((Int.tmod (wrap64 ((Int.tmod a0 64) + 64)) 64) + 1)) t122 t126 true)) else (downpourlaw07_DegreeSums.j0 k (wrap64 ((Int.tmod (wrap64 ((Int.tmod a0 64) + 64)) 64) + 1)) t122 t126 true)) else (downpourlaw07_DegreeSums.j0 k (wrap64 ((Int.tmod (wrap64 ((Int.tmod a0 64) + 64)) 64) + 1)) t122 t126 true))) = some r := H
  have A4 := Aside0.mk A40
  clear A40
  replace H := Option.bind_eq_some_iff.mp H
  obtain ⟨⟨t130, t131⟩, A50, H⟩ := H
  replace H : (if t123 = 0 then (if t127 = 0 then (if t131 = 0 then (if (t122.length : Int) = (wrap64 ((Int.tmod (wrap64 ((Int.tmod a0 64) + 64)) 64) + 1)) then (if (t126.length : Int) = (wrap64 ((Int.tmod (wrap64 ((Int.tmod a0 64) + 64)) 64) + 1)) then (if t130 < 1 then (downpourlaw07_DegreeSums.j0 k (wrap64 ((Int.tmod (wrap64 ((Int.tmod a0 64) + 64)) 64) + 1)) t122 t126 true) else (if t130 > (wrap64 ((Int.tmod (wrap64 ((Int.tmod a0 64) + 64)) 64) + 1)) then (downpourlaw07_DegreeSums.j0 k (wrap64 ((Int.tmod (wrap64 ((Int.tmod a0 64) + 64)) 64) + 1)) t122 t126 true) else ((downpourlaw07_alive.f).bind fun t132 => (downpourlaw07_DegreeSums.j0 k (wrap64 ((Int.tmod (wrap64 ((Int.tmod a0 64) + 64)) 64) + 1)) t122 t126 (!t132))))) else (downpourlaw07_DegreeSums.j0 k (wrap64 ((Int.tmod (wrap64 ((Int.tmod a0 64) + 64)) 64) + 1)) t122 t126 true)) else (downpourlaw07_DegreeSums.j0 k (wrap64 ((Int.tmod (wrap64 ((Int.tmod a0 64) + 64)) 64) + 1)) t122 t126 true)) else (downpourlaw07_DegreeSums.j0 k (wrap64 ((Int.tmod (wrap64 ((Int.tmod a0 64) + 64)) 64) + 1)) t122 t126 true)) else (downpourlaw07_DegreeSums.j0 k (wrap64 ((Int.tmod (wrap64 ((Int.tmod a0 64) + 64)) 64) + 1)) t122 t126 true)) else (downpourlaw07_DegreeSums.j0 k (wrap64 ((Int.tmod (wrap64 ((Int.tmod a0 64) + 64)) 64) + 1)) t122 t126 true)) = some r := H
  have A5 := Aside0.mk A50
  clear A50
  have HC6 := Aside0.mk H
  clear H
  go_enter Try.func6, Try.ntmps6
  go_upto_region 5 with (first | ((with_reducible refine gate_callee (f := 12) rfl ?_); refine goesL_ (some 28) rfl rfl Try.func12 (by kernel_rfl) rfl #[.int .i64 (wrap64 ((Int.tmod (wrap64 ((Int.tmod a0 64) + 64)) 64) + 1))] rfl (by (try simp only [List.map_toArray, List.map_cons, List.map_nil]); first | done | rfl | (simp only [List.length_drop, List.length_take]; rfl)) ?_; (with_reducible refine (degree_Weights.calls (wrap64 ((Int.tmod (wrap64 ((Int.tmod a0 64) + 64)) 64) + 1)) t122 t123 _ A3.out).mono ?_); rintro e w7 ⟨v124, rfl, ho0, hb⟩; refine ⟨_, rfl, ?_⟩; have n0_ := Aside0.mk (Kd.R_lower ho0 (below_size (by repeat (first | (with_reducible first | exact HB.out | apply below_alloc | apply pw_below_drewN | apply below_drew1) | exact HB.out)))); have n1_ := Aside0.mk (below_step (by repeat (first | (with_reducible first | exact HB.out | apply below_alloc | apply pw_below_drewN | apply below_drew1) | exact HB.out)) hb); clear HB; have HO125 := n0_; have HB := n1_; clear n0_ n1_; (try clear hb); (try clear hb2); (try clear hk); (try clear hi); (try clear ho0)) | ((with_reducible refine gate_callee (f := 13) rfl ?_); refine goesL_ (some 33) rfl rfl Try.func13 (by kernel_rfl) rfl #[.int .i64 (wrap64 ((Int.tmod (wrap64 ((Int.tmod a0 64) + 64)) 64) + 1))] rfl (by (try simp only [List.map_toArray, List.map_cons, List.map_nil]); first | done | rfl | (simp only [List.length_drop, List.length_take]; rfl)) ?_; (with_reducible refine (degree_Table.calls (wrap64 ((Int.tmod (wrap64 ((Int.tmod a0 64) + 64)) 64) + 1)) t126 t127 _ A4.out).mono ?_); rintro e w8 ⟨v128, rfl, ho0, hb⟩; refine ⟨_, rfl, ?_⟩; have n0_ := Aside0.mk (Kd.R_elder' (by (with_reducible repeat (first | apply Kd.R_alloc | apply Kd.R_drewN | apply Kd.R_drew)); exact HO125.out) (Kd.R_base ho0) hb); have n1_ := Aside0.mk (Kd.R_lower (Kd.R_new' ho0 (Kd.R_lt (by (with_reducible repeat (first | apply Kd.R_alloc | apply Kd.R_drewN | apply Kd.R_drew)); exact HO125.out))) (below_size (by repeat (first | (with_reducible first | exact HB.out | apply below_alloc | apply pw_below_drewN | apply below_drew1) | exact HB.out)))); have n2_ := Aside0.mk (below_step (by repeat (first | (with_reducible first | exact HB.out | apply below_alloc | apply pw_below_drewN | apply below_drew1) | exact HB.out)) hb); clear HO125; clear HB; have HO125 := n0_; have HO129 := n1_; have HB := n2_; clear n0_ n1_ n2_; (try clear hb); (try clear hb2); (try clear hk); (try clear hi); (try clear ho0); obtain ⟨Ao9, co9, eo9⟩ := Kd.R_slice HO129.out; subst eo9) | ((with_reducible refine gate_callee (f := 7) rfl ?_); refine goesL_ (some 39) rfl rfl Try.func7 (by kernel_rfl) rfl #[.slice Ao9 t126.length co9, .int .u64 a1] rfl (by (try simp only [List.map_toArray, List.map_cons, List.map_nil]); first | done | rfl | (simp only [List.length_drop, List.length_take]; rfl)) ?_; (with_reducible refine (degree_Pick.calls _ _ t126 a1 t130 t131 _ ?side1 ?side2 A5.out).mono ?_); (case side1 => repeat (first | exact (Kd.R_reads' HO129.out).2.2 | (with_reducible refine Kd.C_alloc ?_ _) | (with_reducible refine Kd.C_drewN ?_ _) | (with_reducible refine Kd.C_drew ?_))); (case side2 => exact (Kd.R_reads' HO129.out).2.1); rintro e w10 ⟨rfl, hb⟩; refine ⟨_, rfl, ?_⟩; have n0_ := Aside0.mk (Kd.R_below (by (with_reducible repeat (first | apply Kd.R_alloc | apply Kd.R_drewN | apply Kd.R_drew)); exact HO125.out) hb); have n1_ := Aside0.mk (Kd.R_below (by (with_reducible repeat (first | apply Kd.R_alloc | apply Kd.R_drewN | apply Kd.R_drew)); exact HO129.out) hb); have n2_ := Aside0.mk (below_step (by repeat (first | (with_reducible first | exact HB.out | apply below_alloc | apply pw_below_drewN | apply below_drew1) | exact HB.out)) hb); clear HO125; clear HO129; clear HB; have HO125 := n0_; have HO129 := n1_; have HB := n2_; clear n0_ n1_ n2_; (try clear hb); (try clear hb2); (try clear hk); (try clear hi)))
  (try simp only [Act.put, List.setIfInBounds_toArray, List.set_cons_zero, List.set_cons_succ])
  go_cut [76] (fun v76 wc => ∃ (kq : Nat) (x76_5 : Bool), v76 = .bool x76_5 ∧ Aside0 (downpourlaw07_DegreeSums.j0 kq (wrap64 ((Int.tmod (wrap64 ((Int.tmod a0 64) + 64)) 64) + 1)) t122 t126 x76_5 = some r) ∧ Aside0 (kq ≤ k) ∧ Aside0 (Kd.R (Kd.int .u64) 23 wc w.heap.size (fun k_ => some k_ ≠ ((.slice Ao9 t126.length co9) : Value).ownBlock) v124 t122) ∧ Aside0 (Kd.R (Kd.int .u64) 23 wc w.heap.size (fun k_ => some k_ ≠ (v124 : Value).ownBlock) (.slice Ao9 t126.length co9) t126) ∧ Aside0 (Below w.heap.size w wc))
  case first =>
    have H := HC6.out
    clear HC6
    by_cases c11 : t123 = 0
    · rw [if_pos c11] at H
      have c11b0 : (t123 == 0) = true := beq_iff_eq.mpr c11
      have c11b1 : (t123 != 0) = false := bne_eq_false_iff_eq.mpr c11
      clear c11
      (first | rw [c11b0] | (simp only [i64_w, i32_w]; rw [c11b0]) | skip)
      by_cases c12 : t127 = 0
      · rw [if_pos c12] at H
        have c12b0 : (t127 == 0) = true := beq_iff_eq.mpr c12
        have c12b1 : (t127 != 0) = false := bne_eq_false_iff_eq.mpr c12
        clear c12
        by_cases c13 : t131 = 0
        · rw [if_pos c13] at H
          have c13b0 : (t131 == 0) = true := beq_iff_eq.mpr c13
          have c13b1 : (t131 != 0) = false := bne_eq_false_iff_eq.mpr c13
          clear c13
          by_cases c14 : (t122.length : Int) = (wrap64 ((Int.tmod (wrap64 ((Int.tmod a0 64) + 64)) 64) + 1))
          · rw [if_pos c14] at H
            have c14b0 : ((t122.length : Int) == (wrap64 ((Int.tmod (wrap64 ((Int.tmod a0 64) + 64)) 64) + 1))) = true := beq_iff_eq.mpr c14
            have c14b1 : ((t122.length : Int) != (wrap64 ((Int.tmod (wrap64 ((Int.tmod a0 64) + 64)) 64) + 1))) = false := bne_eq_false_iff_eq.mpr c14
            clear c14
            by_cases c15 : (t126.length : Int) = (wrap64 ((Int.tmod (wrap64 ((Int.tmod a0 64) + 64)) 64) + 1))
            · rw [if_pos c15] at H
              have c15b0 : ((t126.length : Int) == (wrap64 ((Int.tmod (wrap64 ((Int.tmod a0 64) + 64)) 64) + 1))) = true := beq_iff_eq.mpr c15
              have c15b1 : ((t126.length : Int) != (wrap64 ((Int.tmod (wrap64 ((Int.tmod a0 64) + 64)) 64) + 1))) = false := bne_eq_false_iff_eq.mpr c15
              clear c15
              by_cases c16 : t130 < 1
              · rw [if_pos c16] at H
                have c16b0 : decide (t130 < 1) = true := decide_eq_true c16
                clear c16
                have H' := Aside0.mk H
                clear H
                obtain ⟨Ao17, co17, eo17⟩ := Kd.R_slice HO125.out
                subst eo17
                go_wp2
                go_meet
                case rel => exact ⟨_, (true), (by first | rfl | (simp; done) | (simp [*]; done)), H', ⟨by first | omega | exact Nat.le_refl _⟩, ⟨by (with_reducible repeat (first | apply Kd.R_alloc | apply Kd.R_drewN | apply Kd.R_drew)); exact Kd.R_mono HO125.out (fun _ hk => hk.2)⟩, ⟨by (with_reducible repeat (first | apply Kd.R_alloc | apply Kd.R_drewN | apply Kd.R_drew)); exact Kd.R_mono HO129.out (fun _ hk => hk.2)⟩, ⟨by repeat (first | (with_reducible first | exact HB.out | apply below_alloc | apply pw_below_drewN | apply below_drew1) | exact HB.out)⟩⟩
              · rw [if_neg c16] at H
                have c16b0 : decide (t130 < 1) = false := decide_eq_false c16
                clear c16
                by_cases c18 : t130 > (wrap64 ((Int.tmod (wrap64 ((Int.tmod a0 64) + 64)) 64) + 1))
                · rw [if_pos c18] at H
                  have c18b0 : decide ((wrap64 ((Int.tmod (wrap64 ((Int.tmod a0 64) + 64)) 64) + 1)) < t130) = true := decide_eq_true c18
                  clear c18
                  have H' := Aside0.mk H
                  clear H
                  obtain ⟨Ao19, co19, eo19⟩ := Kd.R_slice HO125.out
                  subst eo19
                  go_wp2
                  go_meet
                  case rel => exact ⟨_, (true), (by first | rfl | (simp; done) | (simp [*]; done)), H', ⟨by first | omega | exact Nat.le_refl _⟩, ⟨by (with_reducible repeat (first | apply Kd.R_alloc | apply Kd.R_drewN | apply Kd.R_drew)); exact Kd.R_mono HO125.out (fun _ hk => hk.2)⟩, ⟨by (with_reducible repeat (first | apply Kd.R_alloc | apply Kd.R_drewN | apply Kd.R_drew)); exact Kd.R_mono HO129.out (fun _ hk => hk.2)⟩, ⟨by repeat (first | (with_reducible first | exact HB.out | apply below_alloc | apply pw_below_drewN | apply below_drew1) | exact HB.out)⟩⟩
                · rw [if_neg c18] at H
                  have c18b0 : decide ((wrap64 ((Int.tmod (wrap64 ((Int.tmod a0 64) + 64)) 64) + 1)) < t130) = false := decide_eq_false c18
                  clear c18
                  replace H := Option.bind_eq_some_iff.mp H
                  obtain ⟨t132, A200, H⟩ := H
                  replace H : (downpourlaw07_DegreeSums.j0 k (wrap64 ((Int.tmod (wrap64 ((Int.tmod a0 64) + 64)) 64) + 1)) t122 t126 (!t132)) = some r := H
                  have A20 := Aside0.mk A200
                  clear A200
                  have H' := Aside0.mk H
                  clear H
                  obtain ⟨Ao21, co21, eo21⟩ := Kd.R_slice HO125.out
                  subst eo21
                  go_wp2_with (first | (go_at_call 9; (with_reducible refine (downpourlaw07_alive.calls  t132 _ A20.out).mono ?_); rintro e w22 ⟨rfl, hb⟩; have n0_ := Aside0.mk (Kd.R_below (by (with_reducible repeat (first | apply Kd.R_alloc | apply Kd.R_drewN | apply Kd.R_drew)); exact HO125.out) hb); have n1_ := Aside0.mk (Kd.R_below (by (with_reducible repeat (first | apply Kd.R_alloc | apply Kd.R_drewN | apply Kd.R_drew)); exact HO129.out) hb); have n2_ := Aside0.mk (below_step (by repeat (first | (with_reducible first | exact HB.out | apply below_alloc | apply pw_below_drewN | apply below_drew1) | exact HB.out)) hb); clear HO125; clear HO129; clear HB; have HO125 := n0_; have HO129 := n1_; have HB := n2_; clear n0_ n1_ n2_; (try clear hb); (try clear hb2); (try clear hk); (try clear hi)))
                  go_meet
                  case rel => exact ⟨_, (!t132), (by first | rfl | (simp; done) | (simp [*]; done)), H', ⟨by first | omega | exact Nat.le_refl _⟩, ⟨by (with_reducible repeat (first | apply Kd.R_alloc | apply Kd.R_drewN | apply Kd.R_drew)); exact Kd.R_mono HO125.out (fun _ hk => hk.2)⟩, ⟨by (with_reducible repeat (first | apply Kd.R_alloc | apply Kd.R_drewN | apply Kd.R_drew)); exact Kd.R_mono HO129.out (fun _ hk => hk.2)⟩, ⟨by repeat (first | (with_reducible first | exact HB.out | apply below_alloc | apply pw_below_drewN | apply below_drew1) | exact HB.out)⟩⟩
            · rw [if_neg c15] at H
              have c15b0 : ((t126.length : Int) == (wrap64 ((Int.tmod (wrap64 ((Int.tmod a0 64) + 64)) 64) + 1))) = false := beq_eq_false_iff_ne.mpr c15
              have c15b1 : ((t126.length : Int) != (wrap64 ((Int.tmod (wrap64 ((Int.tmod a0 64) + 64)) 64) + 1))) = true := bne_iff_ne.mpr c15
              have H' := Aside0.mk H
              clear H
              obtain ⟨Ao23, co23, eo23⟩ := Kd.R_slice HO125.out
              subst eo23
              go_wp2
              go_meet
              case rel => exact ⟨_, (true), (by first | rfl | (simp; done) | (simp [*]; done)), H', ⟨by first | omega | exact Nat.le_refl _⟩, ⟨by (with_reducible repeat (first | apply Kd.R_alloc | apply Kd.R_drewN | apply Kd.R_drew)); exact Kd.R_mono HO125.out (fun _ hk => hk.2)⟩, ⟨by (with_reducible repeat (first | apply Kd.R_alloc | apply Kd.R_drewN | apply Kd.R_drew)); exact Kd.R_mono HO129.out (fun _ hk => hk.2)⟩, ⟨by repeat (first | (with_reducible first | exact HB.out | apply below_alloc | apply pw_below_drewN | apply below_drew1) | exact HB.out)⟩⟩
          · rw [if_neg c14] at H
            have c14b0 : ((t122.length : Int) == (wrap64 ((Int.tmod (wrap64 ((Int.tmod a0 64) + 64)) 64) + 1))) = false := beq_eq_false_iff_ne.mpr c14
            have c14b1 : ((t122.length : Int) != (wrap64 ((Int.tmod (wrap64 ((Int.tmod a0 64) + 64)) 64) + 1))) = true := bne_iff_ne.mpr c14
            have H' := Aside0.mk H
            clear H
            obtain ⟨Ao24, co24, eo24⟩ := Kd.R_slice HO125.out
            subst eo24
            go_wp2
            go_meet
            case rel => exact ⟨_, (true), (by first | rfl | (simp; done) | (simp [*]; done)), H', ⟨by first | omega | exact Nat.le_refl _⟩, ⟨by (with_reducible repeat (first | apply Kd.R_alloc | apply Kd.R_drewN | apply Kd.R_drew)); exact Kd.R_mono HO125.out (fun _ hk => hk.2)⟩, ⟨by (with_reducible repeat (first | apply Kd.R_alloc | apply Kd.R_drewN | apply Kd.R_drew)); exact Kd.R_mono HO129.out (fun _ hk => hk.2)⟩, ⟨by repeat (first | (with_reducible first | exact HB.out | apply below_alloc | apply pw_below_drewN | apply below_drew1) | exact HB.out)⟩⟩
        · rw [if_neg c13] at H
          have c13b0 : (t131 == 0) = false := beq_eq_false_iff_ne.mpr c13
          have c13b1 : (t131 != 0) = true := bne_iff_ne.mpr c13
          have H' := Aside0.mk H
          clear H
          go_wp2
          go_meet
          case rel => exact ⟨_, (true), (by first | rfl | (simp; done) | (simp [*]; done)), H', ⟨by first | omega | exact Nat.le_refl _⟩, ⟨by (with_reducible repeat (first | apply Kd.R_alloc | apply Kd.R_drewN | apply Kd.R_drew)); exact Kd.R_mono HO125.out (fun _ hk => hk.2)⟩, ⟨by (with_reducible repeat (first | apply Kd.R_alloc | apply Kd.R_drewN | apply Kd.R_drew)); exact Kd.R_mono HO129.out (fun _ hk => hk.2)⟩, ⟨by repeat (first | (with_reducible first | exact HB.out | apply below_alloc | apply pw_below_drewN | apply below_drew1) | exact HB.out)⟩⟩
      · rw [if_neg c12] at H
        have c12b0 : (t127 == 0) = false := beq_eq_false_iff_ne.mpr c12
        have c12b1 : (t127 != 0) = true := bne_iff_ne.mpr c12
        have H' := Aside0.mk H
        clear H
        go_wp2
        go_meet
        case rel => exact ⟨_, (true), (by first | rfl | (simp; done) | (simp [*]; done)), H', ⟨by first | omega | exact Nat.le_refl _⟩, ⟨by (with_reducible repeat (first | apply Kd.R_alloc | apply Kd.R_drewN | apply Kd.R_drew)); exact Kd.R_mono HO125.out (fun _ hk => hk.2)⟩, ⟨by (with_reducible repeat (first | apply Kd.R_alloc | apply Kd.R_drewN | apply Kd.R_drew)); exact Kd.R_mono HO129.out (fun _ hk => hk.2)⟩, ⟨by repeat (first | (with_reducible first | exact HB.out | apply below_alloc | apply pw_below_drewN | apply below_drew1) | exact HB.out)⟩⟩
    · rw [if_neg c11] at H
      have c11b0 : (t123 == 0) = false := beq_eq_false_iff_ne.mpr c11
      have c11b1 : (t123 != 0) = true := bne_iff_ne.mpr c11
      (first | rw [c11b0] | (simp only [i64_w, i32_w]; rw [c11b0]) | skip)
      have H' := Aside0.mk H
      clear H
      go_wp2
      go_meet
      case rel => exact ⟨_, (true), (by first | rfl | (simp; done) | (simp [*]; done)), H', ⟨by first | omega | exact Nat.le_refl _⟩, ⟨by (with_reducible repeat (first | apply Kd.R_alloc | apply Kd.R_drewN | apply Kd.R_drew)); exact Kd.R_mono HO125.out (fun _ hk => hk.2)⟩, ⟨by (with_reducible repeat (first | apply Kd.R_alloc | apply Kd.R_drewN | apply Kd.R_drew)); exact Kd.R_mono HO129.out (fun _ hk => hk.2)⟩, ⟨by repeat (first | (with_reducible first | exact HB.out | apply below_alloc | apply pw_below_drewN | apply below_drew1) | exact HB.out)⟩⟩
  case rest =>
    clear HC6
    try clear c1
    try clear p2
    try clear c6
    try clear p6
    try clear c7
    try clear c11
    try clear c11b0
    try clear c11b1
    try clear c12
    try clear c12b0
    try clear c12b1
    try clear c13
    try clear c13b0
    try clear c13b1
    try clear c14
    try clear c14b0
    try clear c14b1
    try clear c15
    try clear c15b0
    try clear c15b1
    try clear c16
    try clear c16b0
    try clear c18
    try clear c18b0
    obtain ⟨kq, x76_5, rfl, HA, HJ5, HO_5, HO_7, HB⟩ := hcut
    cases kq with
    | zero => exact absurd HA.out (by simp [downpourlaw07_DegreeSums.j0])
    | succ kj5 =>
      have H := HA.out
      clear HA
      simp only [downpourlaw07_DegreeSums.j0] at H
      by_cases c25 : x76_5 = true
      · subst c25
        have H1 : (some false) = some r := by rw [if_pos rfl] at H; exact H
        clear H
        have H := H1
        clear H1
        obtain rfl := Option.some.inj H
        go_wp2
        go_ret
        exact ⟨by first | rfl | (simp [errW_none, errW_some] <;> rfl) | (simp [*, errW_none, errW_some] <;> rfl), by repeat (first | (with_reducible first | exact HB.out | apply below_alloc | apply pw_below_drewN | apply below_drew1) | exact HB.out)⟩
      · replace c25 := Bool.eq_false_iff.mpr c25
        subst c25
        have H1 : (downpourlaw07_DegreeSums.l0 kj5 (wrap64 ((Int.tmod (wrap64 ((Int.tmod a0 64) + 64)) 64) + 1)) t126 0 t122 (t122.length : Int) 0) = some r := by rw [if_neg (show ¬ (false = true) by decide)] at H; exact H
        clear H
        have H := H1
        clear H1
        have H' := Aside0.mk H
        clear H
        obtain ⟨Ao26, co26, eo26⟩ := Kd.R_slice HO_5.out
        subst eo26
        go_wp2
        go_loopg [11, 79] kj5 (fun kq v11 v79 w' => ∃ (x11_2 : Int) (x79_2 : Int), v11 = .int .u64 x11_2 ∧ v79 = .int .i64 x79_2 ∧ Aside0 (downpourlaw07_DegreeSums.l0 kq (wrap64 ((Int.tmod (wrap64 ((Int.tmod a0 64) + 64)) 64) + 1)) t126 x11_2 t122 (t122.length : Int) x79_2 = some r) ∧ Aside0 (kq ≤ kj5) ∧ Aside0 (Kd.R (Kd.int .u64) 23 w' w.heap.size (fun k_ => some k_ ≠ ((.slice Ao26 t122.length co26) : Value).ownBlock) (.slice Ao9 t126.length co9) t126) ∧ Aside0 (Kd.R (Kd.int .u64) 23 w' w.heap.size (fun k_ => some k_ ≠ ((.slice Ao9 t126.length co9) : Value).ownBlock) (.slice Ao26 t122.length co26) t122) ∧ Aside0 (Below w.heap.size w w'))
        case atStart => exact ⟨(0), (0), (by first | rfl | (simp; done) | (simp [*]; done)), (by first | rfl | (simp; done) | (simp [*]; done)), H', ⟨Nat.le_refl _⟩, ⟨by (with_reducible repeat (first | apply Kd.R_alloc | apply Kd.R_drewN | apply Kd.R_drew)); exact HO_7.out⟩, ⟨by (with_reducible repeat (first | apply Kd.R_alloc | apply Kd.R_drewN | apply Kd.R_drew)); exact HO_5.out⟩, ⟨by repeat (first | (with_reducible first | exact HB.out | apply below_alloc | apply pw_below_drewN | apply below_drew1) | exact HB.out)⟩⟩
        case round =>
          clear H'
          try clear c1
          try clear c2
          try clear p2
          try clear c6
          try clear p6
          try clear c7
          try clear c11
          try clear c11b0
          try clear c11b1
          try clear c12
          try clear c12b0
          try clear c12b1
          try clear c13
          try clear c13b0
          try clear c13b1
          try clear c14
          try clear c14b0
          try clear c14b1
          try clear c15
          try clear c15b0
          try clear c15b1
          try clear c16
          try clear c16b0
          try clear c18
          try clear c18b0
          try clear c25
          try clear p2
          try clear p6
          obtain ⟨x11_2, x79_2, rfl, rfl, HA, HK2, HO_7, HO_77, HB⟩ := hrel
          cases gk with
          | zero => exact absurd HA.out (by simp [downpourlaw07_DegreeSums.l0])
          | succ k2 =>
            have H := HA.out
            clear HA
            simp only [downpourlaw07_DegreeSums.l0] at H
            by_cases c27 : x79_2 < (t122.length : Int)
            · rw [if_pos c27] at H
              have c27b0 : decide (x79_2 < (t122.length : Int)) = true := decide_eq_true c27
              clear c27
              by_cases c28 : 0 ≤ x79_2
              · rw [if_pos c28] at H
                have c28b0 : decide (0 ≤ x79_2) = true := decide_eq_true c28
                clear c28
                by_cases c29 : x79_2 < (t122.length : Int)
                · rw [if_pos c29] at H
                  have c29b0 : decide (x79_2 < (t122.length : Int)) = true := decide_eq_true c29
                  clear c29
                  by_cases c30 : x79_2 < (t126.length : Int)
                  · rw [if_pos c30] at H
                    have c30b0 : decide (x79_2 < (t126.length : Int)) = true := decide_eq_true c30
                    clear c30
                    replace H := Option.bind_eq_some_iff.mp H
                    obtain ⟨⟨t137, t138⟩, A310, H⟩ := H
                    replace H : ((degree_Pick.f t126 (rd t126 x79_2)).bind fun bt140 => (if x79_2 = (wrap64 ((wrap64 ((Int.tmod (wrap64 ((Int.tmod a0 64) + 64)) 64) + 1)) - 1)) then (if (rd t122 x79_2) = 0 then (some false) else (if (rd t126 x79_2) = (IntKind.u64.wrap (x11_2 + (rd t122 x79_2))) then (if t138 = 0 then (if bt140.2 = 0 then (if t137 = (wrap64 (x79_2 + 1)) then (if bt140.1 = 1 then (downpourlaw07_DegreeSums.l0 k2 (wrap64 ((Int.tmod (wrap64 ((Int.tmod a0 64) + 64)) 64) + 1)) t126 (IntKind.u64.wrap (x11_2 + (rd t122 x79_2))) t122 (t122.length : Int) (wrap64 (x79_2 + 1))) else (some false)) else (some false)) else (some false)) else (some false)) else (some false))) else (if (rd t122 x79_2) = 0 then (some false) else (if (rd t126 x79_2) = (IntKind.u64.wrap (x11_2 + (rd t122 x79_2))) then (if t138 = 0 then (if bt140.2 = 0 then (if t137 = (wrap64 (x79_2 + 1)) then (if bt140.1 = (wrap64 (x79_2 + 2)) then (downpourlaw07_DegreeSums.l0 k2 (wrap64 ((Int.tmod (wrap64 ((Int.tmod a0 64) + 64)) 64) + 1)) t126 (IntKind.u64.wrap (x11_2 + (rd t122 x79_2))) t122 (t122.length : Int) (wrap64 (x79_2 + 1))) else (some false)) else (some false)) else (some false)) else (some false)) else (some false))))) = some r := H
                    have A31 := Aside0.mk A310
                    clear A310
                    replace H := Option.bind_eq_some_iff.mp H
                    obtain ⟨⟨t140, t141⟩, A320, H⟩ := H
                    replace H : (if x79_2 = (wrap64 ((wrap64 ((Int.tmod (wrap64 ((Int.tmod a0 64) + 64)) 64) + 1)) - 1)) then (if (rd t122 x79_2) = 0 then (some false) else (if (rd t126 x79_2) = (IntKind.u64.wrap (x11_2 + (rd t122 x79_2))) then (if t138 = 0 then (if t141 = 0 then (if t137 = (wrap64 (x79_2 + 1)) then (if t140 = 1 then (downpourlaw07_DegreeSums.l0 k2 (wrap64 ((Int.tmod (wrap64 ((Int.tmod a0 64) + 64)) 64) + 1)) t126 (IntKind.u64.wrap (x11_2 + (rd t122 x79_2))) t122 (t122.length : Int) (wrap64 (x79_2 + 1))) else (some false)) else (some false)) else (some false)) else (some false)) else (some false))) else (if (rd t122 x79_2) = 0 then (some false) else (if (rd t126 x79_2) = (IntKind.u64.wrap (x11_2 + (rd t122 x79_2))) then (if t138 = 0 then (if t141 = 0 then (if t137 = (wrap64 (x79_2 + 1)) then (if t140 = (wrap64 (x79_2 + 2)) then (downpourlaw07_DegreeSums.l0 k2 (wrap64 ((Int.tmod (wrap64 ((Int.tmod a0 64) + 64)) 64) + 1)) t126 (IntKind.u64.wrap (x11_2 + (rd t122 x79_2))) t122 (t122.length : Int) (wrap64 (x79_2 + 1))) else (some false)) else (some false)) else (some false)) else (some false)) else (some false)))) = some r := H
                    have A32 := Aside0.mk A320
                    clear A320
                    by_cases c33 : x79_2 = (wrap64 ((wrap64 ((Int.tmod (wrap64 ((Int.tmod a0 64) + 64)) 64) + 1)) - 1))
                    · rw [if_pos c33] at H
                      have c33b0 : (x79_2 == (wrap64 ((wrap64 ((Int.tmod (wrap64 ((Int.tmod a0 64) + 64)) 64) + 1)) - 1))) = true := beq_iff_eq.mpr c33
                      have c33b1 : (x79_2 != (wrap64 ((wrap64 ((Int.tmod (wrap64 ((Int.tmod a0 64) + 64)) 64) + 1)) - 1))) = false := bne_eq_false_iff_eq.mpr c33
                      clear c33
                      by_cases c34 : (rd t122 x79_2) = 0
                      · rw [if_pos c34] at H
                        have c34b0 : ((rd t122 x79_2) == 0) = true := beq_iff_eq.mpr c34
                        have c34b1 : ((rd t122 x79_2) != 0) = false := bne_eq_false_iff_eq.mpr c34
                        clear c34
                        obtain rfl := Option.some.inj H
                        have p135 : 0 ≤ (x79_2 : Int) := of_decide_eq_true (by first | (with_reducible assumption) | assumption)
                        have q135 : x79_2 < (t122.length : Int) := of_decide_eq_true (by first | (with_reducible assumption) | assumption)
                        obtain ⟨ad135, e135, hx135_0⟩ := Kd.at_int (Kd.R_reads' HO_77.out).2.2 x79_2 p135 q135
                        cases e135
                        replace p135 := eq_true p135
                        replace q135 := eq_true q135
                        have p136 : 0 ≤ (x79_2 : Int) := of_decide_eq_true (by first | (with_reducible assumption) | assumption)
                        have q136 : x79_2 < (t126.length : Int) := of_decide_eq_true (by first | (with_reducible assumption) | assumption)
                        obtain ⟨ad136, e136, hx136_0⟩ := Kd.at_int (Kd.R_reads' HO_7.out).2.2 x79_2 p136 q136
                        cases e136
                        replace p136 := eq_true p136
                        replace q136 := eq_true q136
                        go_wp2_with (first | ((with_reducible refine gate_callee (f := 7) rfl ?_); refine goesL_ (some 94) rfl rfl Try.func7 (by kernel_rfl) rfl #[.slice (some ad136) t126.length co9, .int .u64 (IntKind.u64.wrap ((rd t126 x79_2) - 1))] rfl (by (try simp only [List.map_toArray, List.map_cons, List.map_nil]); first | done | rfl | (simp only [List.length_drop, List.length_take]; rfl)) ?_; (with_reducible refine (degree_Pick.calls _ _ t126 (IntKind.u64.wrap ((rd t126 x79_2) - 1)) t137 t138 _ ?side1 ?side2 A31.out).mono ?_); (case side1 => repeat (first | exact (Kd.R_reads' HO_7.out).2.2 | (with_reducible refine Kd.C_alloc ?_ _) | (with_reducible refine Kd.C_drewN ?_ _) | (with_reducible refine Kd.C_drew ?_))); (case side2 => exact (Kd.R_reads' HO_7.out).2.1); rintro e w35 ⟨rfl, hb⟩; refine ⟨_, rfl, ?_⟩; have n0_ := Aside0.mk (Kd.R_below (by (with_reducible repeat (first | apply Kd.R_alloc | apply Kd.R_drewN | apply Kd.R_drew)); exact HO_7.out) hb); have n1_ := Aside0.mk (Kd.R_below (by (with_reducible repeat (first | apply Kd.R_alloc | apply Kd.R_drewN | apply Kd.R_drew)); exact HO_77.out) hb); have n2_ := Aside0.mk (below_step (by repeat (first | (with_reducible first | exact HB.out | apply below_alloc | apply pw_below_drewN | apply below_drew1) | exact HB.out)) hb); clear HO_7; clear HO_77; clear HB; have HO_7 := n0_; have HO_77 := n1_; have HB := n2_; clear n0_ n1_ n2_; (try clear hb); (try clear hb2); (try clear hk); (try clear hi); have p139 : 0 ≤ (x79_2 : Int) := of_decide_eq_true (by first | (with_reducible assumption) | assumption); have q139 : x79_2 < (t126.length : Int) := of_decide_eq_true (by first | (with_reducible assumption) | assumption); obtain ⟨ad139, e139, hx139_0⟩ := Kd.at_int (Kd.R_reads' HO_7.out).2.2 x79_2 p139 q139; obtain rfl : ad136 = ad139 := (by injection e139); replace p139 := eq_true p139; replace q139 := eq_true q139) | ((with_reducible refine gate_callee (f := 7) rfl ?_); refine goesL_ (some 103) rfl rfl Try.func7 (by kernel_rfl) rfl #[.slice (some ad136) t126.length co9, .int .u64 (rd t126 x79_2)] rfl (by (try simp only [List.map_toArray, List.map_cons, List.map_nil]); first | done | rfl | (simp only [List.length_drop, List.length_take]; rfl)) ?_; (with_reducible refine (degree_Pick.calls _ _ t126 (rd t126 x79_2) t140 t141 _ ?side1 ?side2 A32.out).mono ?_); (case side1 => repeat (first | exact (Kd.R_reads' HO_7.out).2.2 | (with_reducible refine Kd.C_alloc ?_ _) | (with_reducible refine Kd.C_drewN ?_ _) | (with_reducible refine Kd.C_drew ?_))); (case side2 => exact (Kd.R_reads' HO_7.out).2.1); rintro e w36 ⟨rfl, hb⟩; refine ⟨_, rfl, ?_⟩; have n0_ := Aside0.mk (Kd.R_below (by (with_reducible repeat (first | apply Kd.R_alloc | apply Kd.R_drewN | apply Kd.R_drew)); exact HO_7.out) hb); have n1_ := Aside0.mk (Kd.R_below (by (with_reducible repeat (first | apply Kd.R_alloc | apply Kd.R_drewN | apply Kd.R_drew)); exact HO_77.out) hb); have n2_ := Aside0.mk (below_step (by repeat (first | (with_reducible first | exact HB.out | apply below_alloc | apply pw_below_drewN | apply below_drew1) | exact HB.out)) hb); clear HO_7; clear HO_77; clear HB; have HO_7 := n0_; have HO_77 := n1_; have HB := n2_; clear n0_ n1_ n2_; (try clear hb); (try clear hb2); (try clear hk); (try clear hi)))
                        go_ret
                        exact ⟨by first | rfl | (simp [errW_none, errW_some] <;> rfl) | (simp [*, errW_none, errW_some] <;> rfl), by repeat (first | (with_reducible first | exact HB.out | apply below_alloc | apply pw_below_drewN | apply below_drew1) | exact HB.out)⟩
                      · rw [if_neg c34] at H
                        have c34b0 : ((rd t122 x79_2) == 0) = false := beq_eq_false_iff_ne.mpr c34
                        have c34b1 : ((rd t122 x79_2) != 0) = true := bne_iff_ne.mpr c34
                        by_cases c37 : (rd t126 x79_2) = (IntKind.u64.wrap (x11_2 + (rd t122 x79_2)))
                        · rw [if_pos c37] at H
                          have c37b0 : ((rd t126 x79_2) == (IntKind.u64.wrap (x11_2 + (rd t122 x79_2)))) = true := beq_iff_eq.mpr c37
                          have c37b1 : ((rd t126 x79_2) != (IntKind.u64.wrap (x11_2 + (rd t122 x79_2)))) = false := bne_eq_false_iff_eq.mpr c37
                          clear c37
                          by_cases c38 : t138 = 0
                          · rw [if_pos c38] at H
                            have c38b0 : (t138 == 0) = true := beq_iff_eq.mpr c38
                            have c38b1 : (t138 != 0) = false := bne_eq_false_iff_eq.mpr c38
                            clear c38
                            by_cases c39 : t141 = 0
                            · rw [if_pos c39] at H
                              have c39b0 : (t141 == 0) = true := beq_iff_eq.mpr c39
                              have c39b1 : (t141 != 0) = false := bne_eq_false_iff_eq.mpr c39
                              clear c39
                              by_cases c40 : t137 = (wrap64 (x79_2 + 1))
                              · rw [if_pos c40] at H
                                have c40b0 : (t137 == (wrap64 (x79_2 + 1))) = true := beq_iff_eq.mpr c40
                                have c40b1 : (t137 != (wrap64 (x79_2 + 1))) = false := bne_eq_false_iff_eq.mpr c40
                                clear c40
                                by_cases c41 : t140 = 1
                                · rw [if_pos c41] at H
                                  have c41b0 : (t140 == 1) = true := beq_iff_eq.mpr c41
                                  have c41b1 : (t140 != 1) = false := bne_eq_false_iff_eq.mpr c41
                                  clear c41
                                  have H' := Aside0.mk H
                                  clear H
                                  have p135 : 0 ≤ (x79_2 : Int) := of_decide_eq_true (by first | (with_reducible assumption) | assumption)
                                  have q135 : x79_2 < (t122.length : Int) := of_decide_eq_true (by first | (with_reducible assumption) | assumption)
                                  obtain ⟨ad135, e135, hx135_0⟩ := Kd.at_int (Kd.R_reads' HO_77.out).2.2 x79_2 p135 q135
                                  cases e135
                                  replace p135 := eq_true p135
                                  replace q135 := eq_true q135
                                  have p136 : 0 ≤ (x79_2 : Int) := of_decide_eq_true (by first | (with_reducible assumption) | assumption)
                                  have q136 : x79_2 < (t126.length : Int) := of_decide_eq_true (by first | (with_reducible assumption) | assumption)
                                  obtain ⟨ad136, e136, hx136_0⟩ := Kd.at_int (Kd.R_reads' HO_7.out).2.2 x79_2 p136 q136
                                  cases e136
                                  replace p136 := eq_true p136
                                  replace q136 := eq_true q136
                                  go_wp2_with (first | ((with_reducible refine gate_callee (f := 7) rfl ?_); refine goesL_ (some 94) rfl rfl Try.func7 (by kernel_rfl) rfl #[.slice (some ad136) t126.length co9, .int .u64 (IntKind.u64.wrap ((rd t126 x79_2) - 1))] rfl (by (try simp only [List.map_toArray, List.map_cons, List.map_nil]); first | done | rfl | (simp only [List.length_drop, List.length_take]; rfl)) ?_; (with_reducible refine (degree_Pick.calls _ _ t126 (IntKind.u64.wrap ((rd t126 x79_2) - 1)) t137 t138 _ ?side1 ?side2 A31.out).mono ?_); (case side1 => repeat (first | exact (Kd.R_reads' HO_7.out).2.2 | (with_reducible refine Kd.C_alloc ?_ _) | (with_reducible refine Kd.C_drewN ?_ _) | (with_reducible refine Kd.C_drew ?_))); (case side2 => exact (Kd.R_reads' HO_7.out).2.1); rintro e w42 ⟨rfl, hb⟩; refine ⟨_, rfl, ?_⟩; have n0_ := Aside0.mk (Kd.R_below (by (with_reducible repeat (first | apply Kd.R_alloc | apply Kd.R_drewN | apply Kd.R_drew)); exact HO_7.out) hb); have n1_ := Aside0.mk (Kd.R_below (by (with_reducible repeat (first | apply Kd.R_alloc | apply Kd.R_drewN | apply Kd.R_drew)); exact HO_77.out) hb); have n2_ := Aside0.mk (below_step (by repeat (first | (with_reducible first | exact HB.out | apply below_alloc | apply pw_below_drewN | apply below_drew1) | exact HB.out)) hb); clear HO_7; clear HO_77; clear HB; have HO_7 := n0_; have HO_77 := n1_; have HB := n2_; clear n0_ n1_ n2_; (try clear hb); (try clear hb2); (try clear hk); (try clear hi); have p139 : 0 ≤ (x79_2 : Int) := of_decide_eq_true (by first | (with_reducible assumption) | assumption); have q139 : x79_2 < (t126.length : Int) := of_decide_eq_true (by first | (with_reducible assumption) | assumption); obtain ⟨ad139, e139, hx139_0⟩ := Kd.at_int (Kd.R_reads' HO_7.out).2.2 x79_2 p139 q139; obtain rfl : ad136 = ad139 := (by injection e139); replace p139 := eq_true p139; replace q139 := eq_true q139) | ((with_reducible refine gate_callee (f := 7) rfl ?_); refine goesL_ (some 103) rfl rfl Try.func7 (by kernel_rfl) rfl #[.slice (some ad136) t126.length co9, .int .u64 (rd t126 x79_2)] rfl (by (try simp only [List.map_toArray, List.map_cons, List.map_nil]); first | done | rfl | (simp only [List.length_drop, List.length_take]; rfl)) ?_; (with_reducible refine (degree_Pick.calls _ _ t126 (rd t126 x79_2) t140 t141 _ ?side1 ?side2 A32.out).mono ?_); (case side1 => repeat (first | exact (Kd.R_reads' HO_7.out).2.2 | (with_reducible refine Kd.C_alloc ?_ _) | (with_reducible refine Kd.C_drewN ?_ _) | (with_reducible refine Kd.C_drew ?_))); (case side2 => exact (Kd.R_reads' HO_7.out).2.1); rintro e w43 ⟨rfl, hb⟩; refine ⟨_, rfl, ?_⟩; have n0_ := Aside0.mk (Kd.R_below (by (with_reducible repeat (first | apply Kd.R_alloc | apply Kd.R_drewN | apply Kd.R_drew)); exact HO_7.out) hb); have n1_ := Aside0.mk (Kd.R_below (by (with_reducible repeat (first | apply Kd.R_alloc | apply Kd.R_drewN | apply Kd.R_drew)); exact HO_77.out) hb); have n2_ := Aside0.mk (below_step (by repeat (first | (with_reducible first | exact HB.out | apply below_alloc | apply pw_below_drewN | apply below_drew1) | exact HB.out)) hb); clear HO_7; clear HO_77; clear HB; have HO_7 := n0_; have HO_77 := n1_; have HB := n2_; clear n0_ n1_ n2_; (try clear hb); (try clear hb2); (try clear hk); (try clear hi); have p142 : 0 ≤ (x79_2 : Int) := of_decide_eq_true (by first | (with_reducible assumption) | assumption); have q142 : x79_2 < (t126.length : Int) := of_decide_eq_true (by first | (with_reducible assumption) | assumption); obtain ⟨ad142, e142, hx142_0⟩ := Kd.at_int (Kd.R_reads' HO_7.out).2.2 x79_2 p142 q142; obtain rfl : ad136 = ad142 := (by injection e142); replace p142 := eq_true p142; replace q142 := eq_true q142))
                                  go_roundg k2
                                  case measure => have := HJ5.out; have := HK2.out; omega
                                  case rel => exact ⟨(IntKind.u64.wrap (x11_2 + (rd t122 x79_2))), (wrap64 (x79_2 + 1)), (by first | rfl | (simp; done) | (simp [*]; done)), (by first | rfl | (simp; done) | (simp [*]; done)), H', ⟨by have := HJ5.out; have := HK2.out; omega⟩, ⟨by (with_reducible repeat (first | apply Kd.R_alloc | apply Kd.R_drewN | apply Kd.R_drew)); exact HO_7.out⟩, ⟨by (with_reducible repeat (first | apply Kd.R_alloc | apply Kd.R_drewN | apply Kd.R_drew)); exact HO_77.out⟩, ⟨by repeat (first | (with_reducible first | exact HB.out | apply below_alloc | apply pw_below_drewN | apply below_drew1) | exact HB.out)⟩⟩
                                · rw [if_neg c41] at H
                                  have c41b0 : (t140 == 1) = false := beq_eq_false_iff_ne.mpr c41
                                  have c41b1 : (t140 != 1) = true := bne_iff_ne.mpr c41
                                  obtain rfl := Option.some.inj H
                                  have p135 : 0 ≤ (x79_2 : Int) := of_decide_eq_true (by first | (with_reducible assumption) | assumption)
                                  have q135 : x79_2 < (t122.length : Int) := of_decide_eq_true (by first | (with_reducible assumption) | assumption)
                                  obtain ⟨ad135, e135, hx135_0⟩ := Kd.at_int (Kd.R_reads' HO_77.out).2.2 x79_2 p135 q135
                                  cases e135
                                  replace p135 := eq_true p135
                                  replace q135 := eq_true q135
                                  have p136 : 0 ≤ (x79_2 : Int) := of_decide_eq_true (by first | (with_reducible assumption) | assumption)
                                  have q136 : x79_2 < (t126.length : Int) := of_decide_eq_true (by first | (with_reducible assumption) | assumption)
                                  obtain ⟨ad136, e136, hx136_0⟩ := Kd.at_int (Kd.R_reads' HO_7.out).2.2 x79_2 p136 q136
                                  cases e136
                                  replace p136 := eq_true p136
                                  replace q136 := eq_true q136
                                  go_wp2_with (first | ((with_reducible refine gate_callee (f := 7) rfl ?_); refine goesL_ (some 94) rfl rfl Try.func7 (by kernel_rfl) rfl #[.slice (some ad136) t126.length co9, .int .u64 (IntKind.u64.wrap ((rd t126 x79_2) - 1))] rfl (by (try simp only [List.map_toArray, List.map_cons, List.map_nil]); first | done | rfl | (simp only [List.length_drop, List.length_take]; rfl)) ?_; (with_reducible refine (degree_Pick.calls _ _ t126 (IntKind.u64.wrap ((rd t126 x79_2) - 1)) t137 t138 _ ?side1 ?side2 A31.out).mono ?_); (case side1 => repeat (first | exact (Kd.R_reads' HO_7.out).2.2 | (with_reducible refine Kd.C_alloc ?_ _) | (with_reducible refine Kd.C_drewN ?_ _) | (with_reducible refine Kd.C_drew ?_))); (case side2 => exact (Kd.R_reads' HO_7.out).2.1); rintro e w44 ⟨rfl, hb⟩; refine ⟨_, rfl, ?_⟩; have n0_ := Aside0.mk (Kd.R_below (by (with_reducible repeat (first | apply Kd.R_alloc | apply Kd.R_drewN | apply Kd.R_drew)); exact HO_7.out) hb); have n1_ := Aside0.mk (Kd.R_below (by (with_reducible repeat (first | apply Kd.R_alloc | apply Kd.R_drewN | apply Kd.R_drew)); exact HO_77.out) hb); have n2_ := Aside0.mk (below_step (by repeat (first | (with_reducible first | exact HB.out | apply below_alloc | apply pw_below_drewN | apply below_drew1) | exact HB.out)) hb); clear HO_7; clear HO_77; clear HB; have HO_7 := n0_; have HO_77 := n1_; have HB := n2_; clear n0_ n1_ n2_; (try clear hb); (try clear hb2); (try clear hk); (try clear hi); have p139 : 0 ≤ (x79_2 : Int) := of_decide_eq_true (by first | (with_reducible assumption) | assumption); have q139 : x79_2 < (t126.length : Int) := of_decide_eq_true (by first | (with_reducible assumption) | assumption); obtain ⟨ad139, e139, hx139_0⟩ := Kd.at_int (Kd.R_reads' HO_7.out).2.2 x79_2 p139 q139; obtain rfl : ad136 = ad139 := (by injection e139); replace p139 := eq_true p139; replace q139 := eq_true q139) | ((with_reducible refine gate_callee (f := 7) rfl ?_); refine goesL_ (some 103) rfl rfl Try.func7 (by kernel_rfl) rfl #[.slice (some ad136) t126.length co9, .int .u64 (rd t126 x79_2)] rfl (by (try simp only [List.map_toArray, List.map_cons, List.map_nil]); first | done | rfl | (simp only [List.length_drop, List.length_take]; rfl)) ?_; (with_reducible refine (degree_Pick.calls _ _ t126 (rd t126 x79_2) t140 t141 _ ?side1 ?side2 A32.out).mono ?_); (case side1 => repeat (first | exact (Kd.R_reads' HO_7.out).2.2 | (with_reducible refine Kd.C_alloc ?_ _) | (with_reducible refine Kd.C_drewN ?_ _) | (with_reducible refine Kd.C_drew ?_))); (case side2 => exact (Kd.R_reads' HO_7.out).2.1); rintro e w45 ⟨rfl, hb⟩; refine ⟨_, rfl, ?_⟩; have n0_ := Aside0.mk (Kd.R_below (by (with_reducible repeat (first | apply Kd.R_alloc | apply Kd.R_drewN | apply Kd.R_drew)); exact HO_7.out) hb); have n1_ := Aside0.mk (Kd.R_below (by (with_reducible repeat (first | apply Kd.R_alloc | apply Kd.R_drewN | apply Kd.R_drew)); exact HO_77.out) hb); have n2_ := Aside0.mk (below_step (by repeat (first | (with_reducible first | exact HB.out | apply below_alloc | apply pw_below_drewN | apply below_drew1) | exact HB.out)) hb); clear HO_7; clear HO_77; clear HB; have HO_7 := n0_; have HO_77 := n1_; have HB := n2_; clear n0_ n1_ n2_; (try clear hb); (try clear hb2); (try clear hk); (try clear hi); have p142 : 0 ≤ (x79_2 : Int) := of_decide_eq_true (by first | (with_reducible assumption) | assumption); have q142 : x79_2 < (t126.length : Int) := of_decide_eq_true (by first | (with_reducible assumption) | assumption); obtain ⟨ad142, e142, hx142_0⟩ := Kd.at_int (Kd.R_reads' HO_7.out).2.2 x79_2 p142 q142; obtain rfl : ad136 = ad142 := (by injection e142); replace p142 := eq_true p142; replace q142 := eq_true q142))
                                  go_ret
                                  exact ⟨by first | rfl | (simp [errW_none, errW_some] <;> rfl) | (simp [*, errW_none, errW_some] <;> rfl), by repeat (first | (with_reducible first | exact HB.out | apply below_alloc | apply pw_below_drewN | apply below_drew1) | exact HB.out)⟩
                              · rw [if_neg c40] at H
                                have c40b0 : (t137 == (wrap64 (x79_2 + 1))) = false := beq_eq_false_iff_ne.mpr c40
                                have c40b1 : (t137 != (wrap64 (x79_2 + 1))) = true := bne_iff_ne.mpr c40
                                obtain rfl := Option.some.inj H
                                have p135 : 0 ≤ (x79_2 : Int) := of_decide_eq_true (by first | (with_reducible assumption) | assumption)
                                have q135 : x79_2 < (t122.length : Int) := of_decide_eq_true (by first | (with_reducible assumption) | assumption)
                                obtain ⟨ad135, e135, hx135_0⟩ := Kd.at_int (Kd.R_reads' HO_77.out).2.2 x79_2 p135 q135
                                cases e135
                                replace p135 := eq_true p135
                                replace q135 := eq_true q135
                                have p136 : 0 ≤ (x79_2 : Int) := of_decide_eq_true (by first | (with_reducible assumption) | assumption)
                                have q136 : x79_2 < (t126.length : Int) := of_decide_eq_true (by first | (with_reducible assumption) | assumption)
                                obtain ⟨ad136, e136, hx136_0⟩ := Kd.at_int (Kd.R_reads' HO_7.out).2.2 x79_2 p136 q136
                                cases e136
                                replace p136 := eq_true p136
                                replace q136 := eq_true q136
                                go_wp2_with (first | ((with_reducible refine gate_callee (f := 7) rfl ?_); refine goesL_ (some 94) rfl rfl Try.func7 (by kernel_rfl) rfl #[.slice (some ad136) t126.length co9, .int .u64 (IntKind.u64.wrap ((rd t126 x79_2) - 1))] rfl (by (try simp only [List.map_toArray, List.map_cons, List.map_nil]); first | done | rfl | (simp only [List.length_drop, List.length_take]; rfl)) ?_; (with_reducible refine (degree_Pick.calls _ _ t126 (IntKind.u64.wrap ((rd t126 x79_2) - 1)) t137 t138 _ ?side1 ?side2 A31.out).mono ?_); (case side1 => repeat (first | exact (Kd.R_reads' HO_7.out).2.2 | (with_reducible refine Kd.C_alloc ?_ _) | (with_reducible refine Kd.C_drewN ?_ _) | (with_reducible refine Kd.C_drew ?_))); (case side2 => exact (Kd.R_reads' HO_7.out).2.1); rintro e w46 ⟨rfl, hb⟩; refine ⟨_, rfl, ?_⟩; have n0_ := Aside0.mk (Kd.R_below (by (with_reducible repeat (first | apply Kd.R_alloc | apply Kd.R_drewN | apply Kd.R_drew)); exact HO_7.out) hb); have n1_ := Aside0.mk (Kd.R_below (by (with_reducible repeat (first | apply Kd.R_alloc | apply Kd.R_drewN | apply Kd.R_drew)); exact HO_77.out) hb); have n2_ := Aside0.mk (below_step (by repeat (first | (with_reducible first | exact HB.out | apply below_alloc | apply pw_below_drewN | apply below_drew1) | exact HB.out)) hb); clear HO_7; clear HO_77; clear HB; have HO_7 := n0_; have HO_77 := n1_; have HB := n2_; clear n0_ n1_ n2_; (try clear hb); (try clear hb2); (try clear hk); (try clear hi); have p139 : 0 ≤ (x79_2 : Int) := of_decide_eq_true (by first | (with_reducible assumption) | assumption); have q139 : x79_2 < (t126.length : Int) := of_decide_eq_true (by first | (with_reducible assumption) | assumption); obtain ⟨ad139, e139, hx139_0⟩ := Kd.at_int (Kd.R_reads' HO_7.out).2.2 x79_2 p139 q139; obtain rfl : ad136 = ad139 := (by injection e139); replace p139 := eq_true p139; replace q139 := eq_true q139) | ((with_reducible refine gate_callee (f := 7) rfl ?_); refine goesL_ (some 103) rfl rfl Try.func7 (by kernel_rfl) rfl #[.slice (some ad136) t126.length co9, .int .u64 (rd t126 x79_2)] rfl (by (try simp only [List.map_toArray, List.map_cons, List.map_nil]); first | done | rfl | (simp only [List.length_drop, List.length_take]; rfl)) ?_; (with_reducible refine (degree_Pick.calls _ _ t126 (rd t126 x79_2) t140 t141 _ ?side1 ?side2 A32.out).mono ?_); (case side1 => repeat (first | exact (Kd.R_reads' HO_7.out).2.2 | (with_reducible refine Kd.C_alloc ?_ _) | (with_reducible refine Kd.C_drewN ?_ _) | (with_reducible refine Kd.C_drew ?_))); (case side2 => exact (Kd.R_reads' HO_7.out).2.1); rintro e w47 ⟨rfl, hb⟩; refine ⟨_, rfl, ?_⟩; have n0_ := Aside0.mk (Kd.R_below (by (with_reducible repeat (first | apply Kd.R_alloc | apply Kd.R_drewN | apply Kd.R_drew)); exact HO_7.out) hb); have n1_ := Aside0.mk (Kd.R_below (by (with_reducible repeat (first | apply Kd.R_alloc | apply Kd.R_drewN | apply Kd.R_drew)); exact HO_77.out) hb); have n2_ := Aside0.mk (below_step (by repeat (first | (with_reducible first | exact HB.out | apply below_alloc | apply pw_below_drewN | apply below_drew1) | exact HB.out)) hb); clear HO_7; clear HO_77; clear HB; have HO_7 := n0_; have HO_77 := n1_; have HB := n2_; clear n0_ n1_ n2_; (try clear hb); (try clear hb2); (try clear hk); (try clear hi); have p142 : 0 ≤ (x79_2 : Int) := of_decide_eq_true (by first | (with_reducible assumption) | assumption); have q142 : x79_2 < (t126.length : Int) := of_decide_eq_true (by first | (with_reducible assumption) | assumption); obtain ⟨ad142, e142, hx142_0⟩ := Kd.at_int (Kd.R_reads' HO_7.out).2.2 x79_2 p142 q142; obtain rfl : ad136 = ad142 := (by injection e142); replace p142 := eq_true p142; replace q142 := eq_true q142))
                                go_ret
                                exact ⟨by first | rfl | (simp [errW_none, errW_some] <;> rfl) | (simp [*, errW_none, errW_some] <;> rfl), by repeat (first | (with_reducible first | exact HB.out | apply below_alloc | apply pw_below_drewN | apply below_drew1) | exact HB.out)⟩
                            · rw [if_neg c39] at H
                              have c39b0 : (t141 == 0) = false := beq_eq_false_iff_ne.mpr c39
                              have c39b1 : (t141 != 0) = true := bne_iff_ne.mpr c39
                              obtain rfl := Option.some.inj H
                              have p135 : 0 ≤ (x79_2 : Int) := of_decide_eq_true (by first | (with_reducible assumption) | assumption)
                              have q135 : x79_2 < (t122.length : Int) := of_decide_eq_true (by first | (with_reducible assumption) | assumption)
                              obtain ⟨ad135, e135, hx135_0⟩ := Kd.at_int (Kd.R_reads' HO_77.out).2.2 x79_2 p135 q135
                              cases e135
                              replace p135 := eq_true p135
                              replace q135 := eq_true q135
                              have p136 : 0 ≤ (x79_2 : Int) := of_decide_eq_true (by first | (with_reducible assumption) | assumption)
                              have q136 : x79_2 < (t126.length : Int) := of_decide_eq_true (by first | (with_reducible assumption) | assumption)
                              obtain ⟨ad136, e136, hx136_0⟩ := Kd.at_int (Kd.R_reads' HO_7.out).2.2 x79_2 p136 q136
                              cases e136
                              replace p136 := eq_true p136
                              replace q136 := eq_true q136
                              go_wp2_with (first | ((with_reducible refine gate_callee (f := 7) rfl ?_); refine goesL_ (some 94) rfl rfl Try.func7 (by kernel_rfl) rfl #[.slice (some ad136) t126.length co9, .int .u64 (IntKind.u64.wrap ((rd t126 x79_2) - 1))] rfl (by (try simp only [List.map_toArray, List.map_cons, List.map_nil]); first | done | rfl | (simp only [List.length_drop, List.length_take]; rfl)) ?_; (with_reducible refine (degree_Pick.calls _ _ t126 (IntKind.u64.wrap ((rd t126 x79_2) - 1)) t137 t138 _ ?side1 ?side2 A31.out).mono ?_); (case side1 => repeat (first | exact (Kd.R_reads' HO_7.out).2.2 | (with_reducible refine Kd.C_alloc ?_ _) | (with_reducible refine Kd.C_drewN ?_ _) | (with_reducible refine Kd.C_drew ?_))); (case side2 => exact (Kd.R_reads' HO_7.out).2.1); rintro e w48 ⟨rfl, hb⟩; refine ⟨_, rfl, ?_⟩; have n0_ := Aside0.mk (Kd.R_below (by (with_reducible repeat (first | apply Kd.R_alloc | apply Kd.R_drewN | apply Kd.R_drew)); exact HO_7.out) hb); have n1_ := Aside0.mk (Kd.R_below (by (with_reducible repeat (first | apply Kd.R_alloc | apply Kd.R_drewN | apply Kd.R_drew)); exact HO_77.out) hb); have n2_ := Aside0.mk (below_step (by repeat (first | (with_reducible first | exact HB.out | apply below_alloc | apply pw_below_drewN | apply below_drew1) | exact HB.out)) hb); clear HO_7; clear HO_77; clear HB; have HO_7 := n0_; have HO_77 := n1_; have HB := n2_; clear n0_ n1_ n2_; (try clear hb); (try clear hb2); (try clear hk); (try clear hi); have p139 : 0 ≤ (x79_2 : Int) := of_decide_eq_true (by first | (with_reducible assumption) | assumption); have q139 : x79_2 < (t126.length : Int) := of_decide_eq_true (by first | (with_reducible assumption) | assumption); obtain ⟨ad139, e139, hx139_0⟩ := Kd.at_int (Kd.R_reads' HO_7.out).2.2 x79_2 p139 q139; obtain rfl : ad136 = ad139 := (by injection e139); replace p139 := eq_true p139; replace q139 := eq_true q139) | ((with_reducible refine gate_callee (f := 7) rfl ?_); refine goesL_ (some 103) rfl rfl Try.func7 (by kernel_rfl) rfl #[.slice (some ad136) t126.length co9, .int .u64 (rd t126 x79_2)] rfl (by (try simp only [List.map_toArray, List.map_cons, List.map_nil]); first | done | rfl | (simp only [List.length_drop, List.length_take]; rfl)) ?_; (with_reducible refine (degree_Pick.calls _ _ t126 (rd t126 x79_2) t140 t141 _ ?side1 ?side2 A32.out).mono ?_); (case side1 => repeat (first | exact (Kd.R_reads' HO_7.out).2.2 | (with_reducible refine Kd.C_alloc ?_ _) | (with_reducible refine Kd.C_drewN ?_ _) | (with_reducible refine Kd.C_drew ?_))); (case side2 => exact (Kd.R_reads' HO_7.out).2.1); rintro e w49 ⟨rfl, hb⟩; refine ⟨_, rfl, ?_⟩; have n0_ := Aside0.mk (Kd.R_below (by (with_reducible repeat (first | apply Kd.R_alloc | apply Kd.R_drewN | apply Kd.R_drew)); exact HO_7.out) hb); have n1_ := Aside0.mk (Kd.R_below (by (with_reducible repeat (first | apply Kd.R_alloc | apply Kd.R_drewN | apply Kd.R_drew)); exact HO_77.out) hb); have n2_ := Aside0.mk (below_step (by repeat (first | (with_reducible first | exact HB.out | apply below_alloc | apply pw_below_drewN | apply below_drew1) | exact HB.out)) hb); clear HO_7; clear HO_77; clear HB; have HO_7 := n0_; have HO_77 := n1_; have HB := n2_; clear n0_ n1_ n2_; (try clear hb); (try clear hb2); (try clear hk); (try clear hi); have p142 : 0 ≤ (x79_2 : Int) := of_decide_eq_true (by first | (with_reducible assumption) | assumption); have q142 : x79_2 < (t126.length : Int) := of_decide_eq_true (by first | (with_reducible assumption) | assumption); obtain ⟨ad142, e142, hx142_0⟩ := Kd.at_int (Kd.R_reads' HO_7.out).2.2 x79_2 p142 q142; obtain rfl : ad136 = ad142 := (by injection e142); replace p142 := eq_true p142; replace q142 := eq_true q142))
                              go_ret
                              exact ⟨by first | rfl | (simp [errW_none, errW_some] <;> rfl) | (simp [*, errW_none, errW_some] <;> rfl), by repeat (first | (with_reducible first | exact HB.out | apply below_alloc | apply pw_below_drewN | apply below_drew1) | exact HB.out)⟩
                          · rw [if_neg c38] at H
                            have c38b0 : (t138 == 0) = false := beq_eq_false_iff_ne.mpr c38
                            have c38b1 : (t138 != 0) = true := bne_iff_ne.mpr c38
                            obtain rfl := Option.some.inj H
                            have p135 : 0 ≤ (x79_2 : Int) := of_decide_eq_true (by first | (with_reducible assumption) | assumption)
                            have q135 : x79_2 < (t122.length : Int) := of_decide_eq_true (by first | (with_reducible assumption) | assumption)
                            obtain ⟨ad135, e135, hx135_0⟩ := Kd.at_int (Kd.R_reads' HO_77.out).2.2 x79_2 p135 q135
                            cases e135
                            replace p135 := eq_true p135
                            replace q135 := eq_true q135
                            have p136 : 0 ≤ (x79_2 : Int) := of_decide_eq_true (by first | (with_reducible assumption) | assumption)
                            have q136 : x79_2 < (t126.length : Int) := of_decide_eq_true (by first | (with_reducible assumption) | assumption)
                            obtain ⟨ad136, e136, hx136_0⟩ := Kd.at_int (Kd.R_reads' HO_7.out).2.2 x79_2 p136 q136
                            cases e136
                            replace p136 := eq_true p136
                            replace q136 := eq_true q136
                            go_wp2_with (first | ((with_reducible refine gate_callee (f := 7) rfl ?_); refine goesL_ (some 94) rfl rfl Try.func7 (by kernel_rfl) rfl #[.slice (some ad136) t126.length co9, .int .u64 (IntKind.u64.wrap ((rd t126 x79_2) - 1))] rfl (by (try simp only [List.map_toArray, List.map_cons, List.map_nil]); first | done | rfl | (simp only [List.length_drop, List.length_take]; rfl)) ?_; (with_reducible refine (degree_Pick.calls _ _ t126 (IntKind.u64.wrap ((rd t126 x79_2) - 1)) t137 t138 _ ?side1 ?side2 A31.out).mono ?_); (case side1 => repeat (first | exact (Kd.R_reads' HO_7.out).2.2 | (with_reducible refine Kd.C_alloc ?_ _) | (with_reducible refine Kd.C_drewN ?_ _) | (with_reducible refine Kd.C_drew ?_))); (case side2 => exact (Kd.R_reads' HO_7.out).2.1); rintro e w50 ⟨rfl, hb⟩; refine ⟨_, rfl, ?_⟩; have n0_ := Aside0.mk (Kd.R_below (by (with_reducible repeat (first | apply Kd.R_alloc | apply Kd.R_drewN | apply Kd.R_drew)); exact HO_7.out) hb); have n1_ := Aside0.mk (Kd.R_below (by (with_reducible repeat (first | apply Kd.R_alloc | apply Kd.R_drewN | apply Kd.R_drew)); exact HO_77.out) hb); have n2_ := Aside0.mk (below_step (by repeat (first | (with_reducible first | exact HB.out | apply below_alloc | apply pw_below_drewN | apply below_drew1) | exact HB.out)) hb); clear HO_7; clear HO_77; clear HB; have HO_7 := n0_; have HO_77 := n1_; have HB := n2_; clear n0_ n1_ n2_; (try clear hb); (try clear hb2); (try clear hk); (try clear hi); have p139 : 0 ≤ (x79_2 : Int) := of_decide_eq_true (by first | (with_reducible assumption) | assumption); have q139 : x79_2 < (t126.length : Int) := of_decide_eq_true (by first | (with_reducible assumption) | assumption); obtain ⟨ad139, e139, hx139_0⟩ := Kd.at_int (Kd.R_reads' HO_7.out).2.2 x79_2 p139 q139; obtain rfl : ad136 = ad139 := (by injection e139); replace p139 := eq_true p139; replace q139 := eq_true q139) | ((with_reducible refine gate_callee (f := 7) rfl ?_); refine goesL_ (some 103) rfl rfl Try.func7 (by kernel_rfl) rfl #[.slice (some ad136) t126.length co9, .int .u64 (rd t126 x79_2)] rfl (by (try simp only [List.map_toArray, List.map_cons, List.map_nil]); first | done | rfl | (simp only [List.length_drop, List.length_take]; rfl)) ?_; (with_reducible refine (degree_Pick.calls _ _ t126 (rd t126 x79_2) t140 t141 _ ?side1 ?side2 A32.out).mono ?_); (case side1 => repeat (first | exact (Kd.R_reads' HO_7.out).2.2 | (with_reducible refine Kd.C_alloc ?_ _) | (with_reducible refine Kd.C_drewN ?_ _) | (with_reducible refine Kd.C_drew ?_))); (case side2 => exact (Kd.R_reads' HO_7.out).2.1); rintro e w51 ⟨rfl, hb⟩; refine ⟨_, rfl, ?_⟩; have n0_ := Aside0.mk (Kd.R_below (by (with_reducible repeat (first | apply Kd.R_alloc | apply Kd.R_drewN | apply Kd.R_drew)); exact HO_7.out) hb); have n1_ := Aside0.mk (Kd.R_below (by (with_reducible repeat (first | apply Kd.R_alloc | apply Kd.R_drewN | apply Kd.R_drew)); exact HO_77.out) hb); have n2_ := Aside0.mk (below_step (by repeat (first | (with_reducible first | exact HB.out | apply below_alloc | apply pw_below_drewN | apply below_drew1) | exact HB.out)) hb); clear HO_7; clear HO_77; clear HB; have HO_7 := n0_; have HO_77 := n1_; have HB := n2_; clear n0_ n1_ n2_; (try clear hb); (try clear hb2); (try clear hk); (try clear hi); have p142 : 0 ≤ (x79_2 : Int) := of_decide_eq_true (by first | (with_reducible assumption) | assumption); have q142 : x79_2 < (t126.length : Int) := of_decide_eq_true (by first | (with_reducible assumption) | assumption); obtain ⟨ad142, e142, hx142_0⟩ := Kd.at_int (Kd.R_reads' HO_7.out).2.2 x79_2 p142 q142; obtain rfl : ad136 = ad142 := (by injection e142); replace p142 := eq_true p142; replace q142 := eq_true q142))
                            go_ret
                            exact ⟨by first | rfl | (simp [errW_none, errW_some] <;> rfl) | (simp [*, errW_none, errW_some] <;> rfl), by repeat (first | (with_reducible first | exact HB.out | apply below_alloc | apply pw_below_drewN | apply below_drew1) | exact HB.out)⟩
                        · rw [if_neg c37] at H
                          have c37b0 : ((rd t126 x79_2) == (IntKind.u64.wrap (x11_2 + (rd t122 x79_2)))) = false := beq_eq_false_iff_ne.mpr c37
                          have c37b1 : ((rd t126 x79_2) != (IntKind.u64.wrap (x11_2 + (rd t122 x79_2)))) = true := bne_iff_ne.mpr c37
                          obtain rfl := Option.some.inj H
                          have p135 : 0 ≤ (x79_2 : Int) := of_decide_eq_true (by first | (with_reducible assumption) | assumption)
                          have q135 : x79_2 < (t122.length : Int) := of_decide_eq_true (by first | (with_reducible assumption) | assumption)
                          obtain ⟨ad135, e135, hx135_0⟩ := Kd.at_int (Kd.R_reads' HO_77.out).2.2 x79_2 p135 q135
                          cases e135
                          replace p135 := eq_true p135
                          replace q135 := eq_true q135
                          have p136 : 0 ≤ (x79_2 : Int) := of_decide_eq_true (by first | (with_reducible assumption) | assumption)
                          have q136 : x79_2 < (t126.length : Int) := of_decide_eq_true (by first | (with_reducible assumption) | assumption)
                          obtain ⟨ad136, e136, hx136_0⟩ := Kd.at_int (Kd.R_reads' HO_7.out).2.2 x79_2 p136 q136
                          cases e136
                          replace p136 := eq_true p136
                          replace q136 := eq_true q136
                          go_wp2_with (first | ((with_reducible refine gate_callee (f := 7) rfl ?_); refine goesL_ (some 94) rfl rfl Try.func7 (by kernel_rfl) rfl #[.slice (some ad136) t126.length co9, .int .u64 (IntKind.u64.wrap ((rd t126 x79_2) - 1))] rfl (by (try simp only [List.map_toArray, List.map_cons, List.map_nil]); first | done | rfl | (simp only [List.length_drop, List.length_take]; rfl)) ?_; (with_reducible refine (degree_Pick.calls _ _ t126 (IntKind.u64.wrap ((rd t126 x79_2) - 1)) t137 t138 _ ?side1 ?side2 A31.out).mono ?_); (case side1 => repeat (first | exact (Kd.R_reads' HO_7.out).2.2 | (with_reducible refine Kd.C_alloc ?_ _) | (with_reducible refine Kd.C_drewN ?_ _) | (with_reducible refine Kd.C_drew ?_))); (case side2 => exact (Kd.R_reads' HO_7.out).2.1); rintro e w52 ⟨rfl, hb⟩; refine ⟨_, rfl, ?_⟩; have n0_ := Aside0.mk (Kd.R_below (by (with_reducible repeat (first | apply Kd.R_alloc | apply Kd.R_drewN | apply Kd.R_drew)); exact HO_7.out) hb); have n1_ := Aside0.mk (Kd.R_below (by (with_reducible repeat (first | apply Kd.R_alloc | apply Kd.R_drewN | apply Kd.R_drew)); exact HO_77.out) hb); have n2_ := Aside0.mk (below_step (by repeat (first | (with_reducible first | exact HB.out | apply below_alloc | apply pw_below_drewN | apply below_drew1) | exact HB.out)) hb); clear HO_7; clear HO_77; clear HB; have HO_7 := n0_; have HO_77 := n1_; have HB := n2_; clear n0_ n1_ n2_; (try clear hb); (try clear hb2); (try clear hk); (try clear hi); have p139 : 0 ≤ (x79_2 : Int) := of_decide_eq_true (by first | (with_reducible assumption) | assumption); have q139 : x79_2 < (t126.length : Int) := of_decide_eq_true (by first | (with_reducible assumption) | assumption); obtain ⟨ad139, e139, hx139_0⟩ := Kd.at_int (Kd.R_reads' HO_7.out).2.2 x79_2 p139 q139; obtain rfl : ad136 = ad139 := (by injection e139); replace p139 := eq_true p139; replace q139 := eq_true q139) | ((with_reducible refine gate_callee (f := 7) rfl ?_); refine goesL_ (some 103) rfl rfl Try.func7 (by kernel_rfl) rfl #[.slice (some ad136) t126.length co9, .int .u64 (rd t126 x79_2)] rfl (by (try simp only [List.map_toArray, List.map_cons, List.map_nil]); first | done | rfl | (simp only [List.length_drop, List.length_take]; rfl)) ?_; (with_reducible refine (degree_Pick.calls _ _ t126 (rd t126 x79_2) t140 t141 _ ?side1 ?side2 A32.out).mono ?_); (case side1 => repeat (first | exact (Kd.R_reads' HO_7.out).2.2 | (with_reducible refine Kd.C_alloc ?_ _) | (with_reducible refine Kd.C_drewN ?_ _) | (with_reducible refine Kd.C_drew ?_))); (case side2 => exact (Kd.R_reads' HO_7.out).2.1); rintro e w53 ⟨rfl, hb⟩; refine ⟨_, rfl, ?_⟩; have n0_ := Aside0.mk (Kd.R_below (by (with_reducible repeat (first | apply Kd.R_alloc | apply Kd.R_drewN | apply Kd.R_drew)); exact HO_7.out) hb); have n1_ := Aside0.mk (Kd.R_below (by (with_reducible repeat (first | apply Kd.R_alloc | apply Kd.R_drewN | apply Kd.R_drew)); exact HO_77.out) hb); have n2_ := Aside0.mk (below_step (by repeat (first | (with_reducible first | exact HB.out | apply below_alloc | apply pw_below_drewN | apply below_drew1) | exact HB.out)) hb); clear HO_7; clear HO_77; clear HB; have HO_7 := n0_; have HO_77 := n1_; have HB := n2_; clear n0_ n1_ n2_; (try clear hb); (try clear hb2); (try clear hk); (try clear hi); have p142 : 0 ≤ (x79_2 : Int) := of_decide_eq_true (by first | (with_reducible assumption) | assumption); have q142 : x79_2 < (t126.length : Int) := of_decide_eq_true (by first | (with_reducible assumption) | assumption); obtain ⟨ad142, e142, hx142_0⟩ := Kd.at_int (Kd.R_reads' HO_7.out).2.2 x79_2 p142 q142; obtain rfl : ad136 = ad142 := (by injection e142); replace p142 := eq_true p142; replace q142 := eq_true q142))
                          go_ret
                          exact ⟨by first | rfl | (simp [errW_none, errW_some] <;> rfl) | (simp [*, errW_none, errW_some] <;> rfl), by repeat (first | (with_reducible first | exact HB.out | apply below_alloc | apply pw_below_drewN | apply below_drew1) | exact HB.out)⟩
                    · rw [if_neg c33] at H
                      have c33b0 : (x79_2 == (wrap64 ((wrap64 ((Int.tmod (wrap64 ((Int.tmod a0 64) + 64)) 64) + 1)) - 1))) = false := beq_eq_false_iff_ne.mpr c33
                      have c33b1 : (x79_2 != (wrap64 ((wrap64 ((Int.tmod (wrap64 ((Int.tmod a0 64) + 64)) 64) + 1)) - 1))) = true := bne_iff_ne.mpr c33
                      by_cases c54 : (rd t122 x79_2) = 0
                      · rw [if_pos c54] at H
                        have c54b0 : ((rd t122 x79_2) == 0) = true := beq_iff_eq.mpr c54
                        have c54b1 : ((rd t122 x79_2) != 0) = false := bne_eq_false_iff_eq.mpr c54
                        clear c54
                        obtain rfl := Option.some.inj H
                        have p135 : 0 ≤ (x79_2 : Int) := of_decide_eq_true (by first | (with_reducible assumption) | assumption)
                        have q135 : x79_2 < (t122.length : Int) := of_decide_eq_true (by first | (with_reducible assumption) | assumption)
                        obtain ⟨ad135, e135, hx135_0⟩ := Kd.at_int (Kd.R_reads' HO_77.out).2.2 x79_2 p135 q135
                        cases e135
                        replace p135 := eq_true p135
                        replace q135 := eq_true q135
                        have p136 : 0 ≤ (x79_2 : Int) := of_decide_eq_true (by first | (with_reducible assumption) | assumption)
                        have q136 : x79_2 < (t126.length : Int) := of_decide_eq_true (by first | (with_reducible assumption) | assumption)
                        obtain ⟨ad136, e136, hx136_0⟩ := Kd.at_int (Kd.R_reads' HO_7.out).2.2 x79_2 p136 q136
                        cases e136
                        replace p136 := eq_true p136
                        replace q136 := eq_true q136
                        go_wp2_with (first | ((with_reducible refine gate_callee (f := 7) rfl ?_); refine goesL_ (some 94) rfl rfl Try.func7 (by kernel_rfl) rfl #[.slice (some ad136) t126.length co9, .int .u64 (IntKind.u64.wrap ((rd t126 x79_2) - 1))] rfl (by (try simp only [List.map_toArray, List.map_cons, List.map_nil]); first | done | rfl | (simp only [List.length_drop, List.length_take]; rfl)) ?_; (with_reducible refine (degree_Pick.calls _ _ t126 (IntKind.u64.wrap ((rd t126 x79_2) - 1)) t137 t138 _ ?side1 ?side2 A31.out).mono ?_); (case side1 => repeat (first | exact (Kd.R_reads' HO_7.out).2.2 | (with_reducible refine Kd.C_alloc ?_ _) | (with_reducible refine Kd.C_drewN ?_ _) | (with_reducible refine Kd.C_drew ?_))); (case side2 => exact (Kd.R_reads' HO_7.out).2.1); rintro e w55 ⟨rfl, hb⟩; refine ⟨_, rfl, ?_⟩; have n0_ := Aside0.mk (Kd.R_below (by (with_reducible repeat (first | apply Kd.R_alloc | apply Kd.R_drewN | apply Kd.R_drew)); exact HO_7.out) hb); have n1_ := Aside0.mk (Kd.R_below (by (with_reducible repeat (first | apply Kd.R_alloc | apply Kd.R_drewN | apply Kd.R_drew)); exact HO_77.out) hb); have n2_ := Aside0.mk (below_step (by repeat (first | (with_reducible first | exact HB.out | apply below_alloc | apply pw_below_drewN | apply below_drew1) | exact HB.out)) hb); clear HO_7; clear HO_77; clear HB; have HO_7 := n0_; have HO_77 := n1_; have HB := n2_; clear n0_ n1_ n2_; (try clear hb); (try clear hb2); (try clear hk); (try clear hi); have p139 : 0 ≤ (x79_2 : Int) := of_decide_eq_true (by first | (with_reducible assumption) | assumption); have q139 : x79_2 < (t126.length : Int) := of_decide_eq_true (by first | (with_reducible assumption) | assumption); obtain ⟨ad139, e139, hx139_0⟩ := Kd.at_int (Kd.R_reads' HO_7.out).2.2 x79_2 p139 q139; obtain rfl : ad136 = ad139 := (by injection e139); replace p139 := eq_true p139; replace q139 := eq_true q139) | ((with_reducible refine gate_callee (f := 7) rfl ?_); refine goesL_ (some 103) rfl rfl Try.func7 (by kernel_rfl) rfl #[.slice (some ad136) t126.length co9, .int .u64 (rd t126 x79_2)] rfl (by (try simp only [List.map_toArray, List.map_cons, List.map_nil]); first | done | rfl | (simp only [List.length_drop, List.length_take]; rfl)) ?_; (with_reducible refine (degree_Pick.calls _ _ t126 (rd t126 x79_2) t140 t141 _ ?side1 ?side2 A32.out).mono ?_); (case side1 => repeat (first | exact (Kd.R_reads' HO_7.out).2.2 | (with_reducible refine Kd.C_alloc ?_ _) | (with_reducible refine Kd.C_drewN ?_ _) | (with_reducible refine Kd.C_drew ?_))); (case side2 => exact (Kd.R_reads' HO_7.out).2.1); rintro e w56 ⟨rfl, hb⟩; refine ⟨_, rfl, ?_⟩; have n0_ := Aside0.mk (Kd.R_below (by (with_reducible repeat (first | apply Kd.R_alloc | apply Kd.R_drewN | apply Kd.R_drew)); exact HO_7.out) hb); have n1_ := Aside0.mk (Kd.R_below (by (with_reducible repeat (first | apply Kd.R_alloc | apply Kd.R_drewN | apply Kd.R_drew)); exact HO_77.out) hb); have n2_ := Aside0.mk (below_step (by repeat (first | (with_reducible first | exact HB.out | apply below_alloc | apply pw_below_drewN | apply below_drew1) | exact HB.out)) hb); clear HO_7; clear HO_77; clear HB; have HO_7 := n0_; have HO_77 := n1_; have HB := n2_; clear n0_ n1_ n2_; (try clear hb); (try clear hb2); (try clear hk); (try clear hi)))
                        go_ret
                        exact ⟨by first | rfl | (simp [errW_none, errW_some] <;> rfl) | (simp [*, errW_none, errW_some] <;> rfl), by repeat (first | (with_reducible first | exact HB.out | apply below_alloc | apply pw_below_drewN | apply below_drew1) | exact HB.out)⟩
                      · rw [if_neg c54] at H
                        have c54b0 : ((rd t122 x79_2) == 0) = false := beq_eq_false_iff_ne.mpr c54
                        have c54b1 : ((rd t122 x79_2) != 0) = true := bne_iff_ne.mpr c54
                        by_cases c57 : (rd t126 x79_2) = (IntKind.u64.wrap (x11_2 + (rd t122 x79_2)))
                        · rw [if_pos c57] at H
                          have c57b0 : ((rd t126 x79_2) == (IntKind.u64.wrap (x11_2 + (rd t122 x79_2)))) = true := beq_iff_eq.mpr c57
                          have c57b1 : ((rd t126 x79_2) != (IntKind.u64.wrap (x11_2 + (rd t122 x79_2)))) = false := bne_eq_false_iff_eq.mpr c57
                          clear c57
                          by_cases c58 : t138 = 0
                          · rw [if_pos c58] at H
                            have c58b0 : (t138 == 0) = true := beq_iff_eq.mpr c58
                            have c58b1 : (t138 != 0) = false := bne_eq_false_iff_eq.mpr c58
                            clear c58
                            by_cases c59 : t141 = 0
                            · rw [if_pos c59] at H
                              have c59b0 : (t141 == 0) = true := beq_iff_eq.mpr c59
                              have c59b1 : (t141 != 0) = false := bne_eq_false_iff_eq.mpr c59
                              clear c59
                              by_cases c60 : t137 = (wrap64 (x79_2 + 1))
                              · rw [if_pos c60] at H
                                have c60b0 : (t137 == (wrap64 (x79_2 + 1))) = true := beq_iff_eq.mpr c60
                                have c60b1 : (t137 != (wrap64 (x79_2 + 1))) = false := bne_eq_false_iff_eq.mpr c60
                                clear c60
                                by_cases c61 : t140 = (wrap64 (x79_2 + 2))
                                · rw [if_pos c61] at H
                                  have c61b0 : (t140 == (wrap64 (x79_2 + 2))) = true := beq_iff_eq.mpr c61
                                  have c61b1 : (t140 != (wrap64 (x79_2 + 2))) = false := bne_eq_false_iff_eq.mpr c61
                                  clear c61
                                  have H' := Aside0.mk H
                                  clear H
                                  have p135 : 0 ≤ (x79_2 : Int) := of_decide_eq_true (by first | (with_reducible assumption) | assumption)
                                  have q135 : x79_2 < (t122.length : Int) := of_decide_eq_true (by first | (with_reducible assumption) | assumption)
                                  obtain ⟨ad135, e135, hx135_0⟩ := Kd.at_int (Kd.R_reads' HO_77.out).2.2 x79_2 p135 q135
                                  cases e135
                                  replace p135 := eq_true p135
                                  replace q135 := eq_true q135
                                  have p136 : 0 ≤ (x79_2 : Int) := of_decide_eq_true (by first | (with_reducible assumption) | assumption)
                                  have q136 : x79_2 < (t126.length : Int) := of_decide_eq_true (by first | (with_reducible assumption) | assumption)
                                  obtain ⟨ad136, e136, hx136_0⟩ := Kd.at_int (Kd.R_reads' HO_7.out).2.2 x79_2 p136 q136
                                  cases e136
                                  replace p136 := eq_true p136
                                  replace q136 := eq_true q136
                                  go_wp2_with (first | ((with_reducible refine gate_callee (f := 7) rfl ?_); refine goesL_ (some 94) rfl rfl Try.func7 (by kernel_rfl) rfl #[.slice (some ad136) t126.length co9, .int .u64 (IntKind.u64.wrap ((rd t126 x79_2) - 1))] rfl (by (try simp only [List.map_toArray, List.map_cons, List.map_nil]); first | done | rfl | (simp only [List.length_drop, List.length_take]; rfl)) ?_; (with_reducible refine (degree_Pick.calls _ _ t126 (IntKind.u64.wrap ((rd t126 x79_2) - 1)) t137 t138 _ ?side1 ?side2 A31.out).mono ?_); (case side1 => repeat (first | exact (Kd.R_reads' HO_7.out).2.2 | (with_reducible refine Kd.C_alloc ?_ _) | (with_reducible refine Kd.C_drewN ?_ _) | (with_reducible refine Kd.C_drew ?_))); (case side2 => exact (Kd.R_reads' HO_7.out).2.1); rintro e w62 ⟨rfl, hb⟩; refine ⟨_, rfl, ?_⟩; have n0_ := Aside0.mk (Kd.R_below (by (with_reducible repeat (first | apply Kd.R_alloc | apply Kd.R_drewN | apply Kd.R_drew)); exact HO_7.out) hb); have n1_ := Aside0.mk (Kd.R_below (by (with_reducible repeat (first | apply Kd.R_alloc | apply Kd.R_drewN | apply Kd.R_drew)); exact HO_77.out) hb); have n2_ := Aside0.mk (below_step (by repeat (first | (with_reducible first | exact HB.out | apply below_alloc | apply pw_below_drewN | apply below_drew1) | exact HB.out)) hb); clear HO_7; clear HO_77; clear HB; have HO_7 := n0_; have HO_77 := n1_; have HB := n2_; clear n0_ n1_ n2_; (try clear hb); (try clear hb2); (try clear hk); (try clear hi); have p139 : 0 ≤ (x79_2 : Int) := of_decide_eq_true (by first | (with_reducible assumption) | assumption); have q139 : x79_2 < (t126.length : Int) := of_decide_eq_true (by first | (with_reducible assumption) | assumption); obtain ⟨ad139, e139, hx139_0⟩ := Kd.at_int (Kd.R_reads' HO_7.out).2.2 x79_2 p139 q139; obtain rfl : ad136 = ad139 := (by injection e139); replace p139 := eq_true p139; replace q139 := eq_true q139) | ((with_reducible refine gate_callee (f := 7) rfl ?_); refine goesL_ (some 103) rfl rfl Try.func7 (by kernel_rfl) rfl #[.slice (some ad136) t126.length co9, .int .u64 (rd t126 x79_2)] rfl (by (try simp only [List.map_toArray, List.map_cons, List.map_nil]); first | done | rfl | (simp only [List.length_drop, List.length_take]; rfl)) ?_; (with_reducible refine (degree_Pick.calls _ _ t126 (rd t126 x79_2) t140 t141 _ ?side1 ?side2 A32.out).mono ?_); (case side1 => repeat (first | exact (Kd.R_reads' HO_7.out).2.2 | (with_reducible refine Kd.C_alloc ?_ _) | (with_reducible refine Kd.C_drewN ?_ _) | (with_reducible refine Kd.C_drew ?_))); (case side2 => exact (Kd.R_reads' HO_7.out).2.1); rintro e w63 ⟨rfl, hb⟩; refine ⟨_, rfl, ?_⟩; have n0_ := Aside0.mk (Kd.R_below (by (with_reducible repeat (first | apply Kd.R_alloc | apply Kd.R_drewN | apply Kd.R_drew)); exact HO_7.out) hb); have n1_ := Aside0.mk (Kd.R_below (by (with_reducible repeat (first | apply Kd.R_alloc | apply Kd.R_drewN | apply Kd.R_drew)); exact HO_77.out) hb); have n2_ := Aside0.mk (below_step (by repeat (first | (with_reducible first | exact HB.out | apply below_alloc | apply pw_below_drewN | apply below_drew1) | exact HB.out)) hb); clear HO_7; clear HO_77; clear HB; have HO_7 := n0_; have HO_77 := n1_; have HB := n2_; clear n0_ n1_ n2_; (try clear hb); (try clear hb2); (try clear hk); (try clear hi); have p143 : 0 ≤ (x79_2 : Int) := of_decide_eq_true (by first | (with_reducible assumption) | assumption); have q143 : x79_2 < (t126.length : Int) := of_decide_eq_true (by first | (with_reducible assumption) | assumption); obtain ⟨ad143, e143, hx143_0⟩ := Kd.at_int (Kd.R_reads' HO_7.out).2.2 x79_2 p143 q143; obtain rfl : ad136 = ad143 := (by injection e143); replace p143 := eq_true p143; replace q143 := eq_true q143))
                                  go_roundg k2
                                  case measure => have := HJ5.out; have := HK2.out; omega
                                  case rel => exact ⟨(IntKind.u64.wrap (x11_2 + (rd t122 x79_2))), (wrap64 (x79_2 + 1)), (by first | rfl | (simp; done) | (simp [*]; done)), (by first | rfl | (simp; done) | (simp [*]; done)), H', ⟨by have := HJ5.out; have := HK2.out; omega⟩, ⟨by (with_reducible repeat (first | apply Kd.R_alloc | apply Kd.R_drewN | apply Kd.R_drew)); exact HO_7.out⟩, ⟨by (with_reducible repeat (first | apply Kd.R_alloc | apply Kd.R_drewN | apply Kd.R_drew)); exact HO_77.out⟩, ⟨by repeat (first | (with_reducible first | exact HB.out | apply below_alloc | apply pw_below_drewN | apply below_drew1) | exact HB.out)⟩⟩
                                · rw [if_neg c61] at H
                                  have c61b0 : (t140 == (wrap64 (x79_2 + 2))) = false := beq_eq_false_iff_ne.mpr c61
                                  have c61b1 : (t140 != (wrap64 (x79_2 + 2))) = true := bne_iff_ne.mpr c61
                                  obtain rfl := Option.some.inj H
                                  have p135 : 0 ≤ (x79_2 : Int) := of_decide_eq_true (by first | (with_reducible assumption) | assumption)
                                  have q135 : x79_2 < (t122.length : Int) := of_decide_eq_true (by first | (with_reducible assumption) | assumption)
                                  obtain ⟨ad135, e135, hx135_0⟩ := Kd.at_int (Kd.R_reads' HO_77.out).2.2 x79_2 p135 q135
                                  cases e135
                                  replace p135 := eq_true p135
                                  replace q135 := eq_true q135
                                  have p136 : 0 ≤ (x79_2 : Int) := of_decide_eq_true (by first | (with_reducible assumption) | assumption)
                                  have q136 : x79_2 < (t126.length : Int) := of_decide_eq_true (by first | (with_reducible assumption) | assumption)
                                  obtain ⟨ad136, e136, hx136_0⟩ := Kd.at_int (Kd.R_reads' HO_7.out).2.2 x79_2 p136 q136
                                  cases e136
                                  replace p136 := eq_true p136
                                  replace q136 := eq_true q136
                                  go_wp2_with (first | ((with_reducible refine gate_callee (f := 7) rfl ?_); refine goesL_ (some 94) rfl rfl Try.func7 (by kernel_rfl) rfl #[.slice (some ad136) t126.length co9, .int .u64 (IntKind.u64.wrap ((rd t126 x79_2) - 1))] rfl (by (try simp only [List.map_toArray, List.map_cons, List.map_nil]); first | done | rfl | (simp only [List.length_drop, List.length_take]; rfl)) ?_; (with_reducible refine (degree_Pick.calls _ _ t126 (IntKind.u64.wrap ((rd t126 x79_2) - 1)) t137 t138 _ ?side1 ?side2 A31.out).mono ?_); (case side1 => repeat (first | exact (Kd.R_reads' HO_7.out).2.2 | (with_reducible refine Kd.C_alloc ?_ _) | (with_reducible refine Kd.C_drewN ?_ _) | (with_reducible refine Kd.C_drew ?_))); (case side2 => exact (Kd.R_reads' HO_7.out).2.1); rintro e w64 ⟨rfl, hb⟩; refine ⟨_, rfl, ?_⟩; have n0_ := Aside0.mk (Kd.R_below (by (with_reducible repeat (first | apply Kd.R_alloc | apply Kd.R_drewN | apply Kd.R_drew)); exact HO_7.out) hb); have n1_ := Aside0.mk (Kd.R_below (by (with_reducible repeat (first | apply Kd.R_alloc | apply Kd.R_drewN | apply Kd.R_drew)); exact HO_77.out) hb); have n2_ := Aside0.mk (below_step (by repeat (first | (with_reducible first | exact HB.out | apply below_alloc | apply pw_below_drewN | apply below_drew1) | exact HB.out)) hb); clear HO_7; clear HO_77; clear HB; have HO_7 := n0_; have HO_77 := n1_; have HB := n2_; clear n0_ n1_ n2_; (try clear hb); (try clear hb2); (try clear hk); (try clear hi); have p139 : 0 ≤ (x79_2 : Int) := of_decide_eq_true (by first | (with_reducible assumption) | assumption); have q139 : x79_2 < (t126.length : Int) := of_decide_eq_true (by first | (with_reducible assumption) | assumption); obtain ⟨ad139, e139, hx139_0⟩ := Kd.at_int (Kd.R_reads' HO_7.out).2.2 x79_2 p139 q139; obtain rfl : ad136 = ad139 := (by injection e139); replace p139 := eq_true p139; replace q139 := eq_true q139) | ((with_reducible refine gate_callee (f := 7) rfl ?_); refine goesL_ (some 103) rfl rfl Try.func7 (by kernel_rfl) rfl #[.slice (some ad136) t126.length co9, .int .u64 (rd t126 x79_2)] rfl (by (try simp only [List.map_toArray, List.map_cons, List.map_nil]); first | done | rfl | (simp only [List.length_drop, List.length_take]; rfl)) ?_; (with_reducible refine (degree_Pick.calls _ _ t126 (rd t126 x79_2) t140 t141 _ ?side1 ?side2 A32.out).mono ?_); (case side1 => repeat (first | exact (Kd.R_reads' HO_7.out).2.2 | (with_reducible refine Kd.C_alloc ?_ _) | (with_reducible refine Kd.C_drewN ?_ _) | (with_reducible refine Kd.C_drew ?_))); (case side2 => exact (Kd.R_reads' HO_7.out).2.1); rintro e w65 ⟨rfl, hb⟩; refine ⟨_, rfl, ?_⟩; have n0_ := Aside0.mk (Kd.R_below (by (with_reducible repeat (first | apply Kd.R_alloc | apply Kd.R_drewN | apply Kd.R_drew)); exact HO_7.out) hb); have n1_ := Aside0.mk (Kd.R_below (by (with_reducible repeat (first | apply Kd.R_alloc | apply Kd.R_drewN | apply Kd.R_drew)); exact HO_77.out) hb); have n2_ := Aside0.mk (below_step (by repeat (first | (with_reducible first | exact HB.out | apply below_alloc | apply pw_below_drewN | apply below_drew1) | exact HB.out)) hb); clear HO_7; clear HO_77; clear HB; have HO_7 := n0_; have HO_77 := n1_; have HB := n2_; clear n0_ n1_ n2_; (try clear hb); (try clear hb2); (try clear hk); (try clear hi); have p143 : 0 ≤ (x79_2 : Int) := of_decide_eq_true (by first | (with_reducible assumption) | assumption); have q143 : x79_2 < (t126.length : Int) := of_decide_eq_true (by first | (with_reducible assumption) | assumption); obtain ⟨ad143, e143, hx143_0⟩ := Kd.at_int (Kd.R_reads' HO_7.out).2.2 x79_2 p143 q143; obtain rfl : ad136 = ad143 := (by injection e143); replace p143 := eq_true p143; replace q143 := eq_true q143))
                                  go_ret
                                  exact ⟨by first | rfl | (simp [errW_none, errW_some] <;> rfl) | (simp [*, errW_none, errW_some] <;> rfl), by repeat (first | (with_reducible first | exact HB.out | apply below_alloc | apply pw_below_drewN | apply below_drew1) | exact HB.out)⟩
                              · rw [if_neg c60] at H
                                have c60b0 : (t137 == (wrap64 (x79_2 + 1))) = false := beq_eq_false_iff_ne.mpr c60
                                have c60b1 : (t137 != (wrap64 (x79_2 + 1))) = true := bne_iff_ne.mpr c60
                                obtain rfl := Option.some.inj H
                                have p135 : 0 ≤ (x79_2 : Int) := of_decide_eq_true (by first | (with_reducible assumption) | assumption)
                                have q135 : x79_2 < (t122.length : Int) := of_decide_eq_true (by first | (with_reducible assumption) | assumption)
                                obtain ⟨ad135, e135, hx135_0⟩ := Kd.at_int (Kd.R_reads' HO_77.out).2.2 x79_2 p135 q135
                                cases e135
                                replace p135 := eq_true p135
                                replace q135 := eq_true q135
                                have p136 : 0 ≤ (x79_2 : Int) := of_decide_eq_true (by first | (with_reducible assumption) | assumption)
                                have q136 : x79_2 < (t126.length : Int) := of_decide_eq_true (by first | (with_reducible assumption) | assumption)
                                obtain ⟨ad136, e136, hx136_0⟩ := Kd.at_int (Kd.R_reads' HO_7.out).2.2 x79_2 p136 q136
                                cases e136
                                replace p136 := eq_true p136
                                replace q136 := eq_true q136
                                go_wp2_with (first | ((with_reducible refine gate_callee (f := 7) rfl ?_); refine goesL_ (some 94) rfl rfl Try.func7 (by kernel_rfl) rfl #[.slice (some ad136) t126.length co9, .int .u64 (IntKind.u64.wrap ((rd t126 x79_2) - 1))] rfl (by (try simp only [List.map_toArray, List.map_cons, List.map_nil]); first | done | rfl | (simp only [List.length_drop, List.length_take]; rfl)) ?_; (with_reducible refine (degree_Pick.calls _ _ t126 (IntKind.u64.wrap ((rd t126 x79_2) - 1)) t137 t138 _ ?side1 ?side2 A31.out).mono ?_); (case side1 => repeat (first | exact (Kd.R_reads' HO_7.out).2.2 | (with_reducible refine Kd.C_alloc ?_ _) | (with_reducible refine Kd.C_drewN ?_ _) | (with_reducible refine Kd.C_drew ?_))); (case side2 => exact (Kd.R_reads' HO_7.out).2.1); rintro e w66 ⟨rfl, hb⟩; refine ⟨_, rfl, ?_⟩; have n0_ := Aside0.mk (Kd.R_below (by (with_reducible repeat (first | apply Kd.R_alloc | apply Kd.R_drewN | apply Kd.R_drew)); exact HO_7.out) hb); have n1_ := Aside0.mk (Kd.R_below (by (with_reducible repeat (first | apply Kd.R_alloc | apply Kd.R_drewN | apply Kd.R_drew)); exact HO_77.out) hb); have n2_ := Aside0.mk (below_step (by repeat (first | (with_reducible first | exact HB.out | apply below_alloc | apply pw_below_drewN | apply below_drew1) | exact HB.out)) hb); clear HO_7; clear HO_77; clear HB; have HO_7 := n0_; have HO_77 := n1_; have HB := n2_; clear n0_ n1_ n2_; (try clear hb); (try clear hb2); (try clear hk); (try clear hi); have p139 : 0 ≤ (x79_2 : Int) := of_decide_eq_true (by first | (with_reducible assumption) | assumption); have q139 : x79_2 < (t126.length : Int) := of_decide_eq_true (by first | (with_reducible assumption) | assumption); obtain ⟨ad139, e139, hx139_0⟩ := Kd.at_int (Kd.R_reads' HO_7.out).2.2 x79_2 p139 q139; obtain rfl : ad136 = ad139 := (by injection e139); replace p139 := eq_true p139; replace q139 := eq_true q139) | ((with_reducible refine gate_callee (f := 7) rfl ?_); refine goesL_ (some 103) rfl rfl Try.func7 (by kernel_rfl) rfl #[.slice (some ad136) t126.length co9, .int .u64 (rd t126 x79_2)] rfl (by (try simp only [List.map_toArray, List.map_cons, List.map_nil]); first | done | rfl | (simp only [List.length_drop, List.length_take]; rfl)) ?_; (with_reducible refine (degree_Pick.calls _ _ t126 (rd t126 x79_2) t140 t141 _ ?side1 ?side2 A32.out).mono ?_); (case side1 => repeat (first | exact (Kd.R_reads' HO_7.out).2.2 | (with_reducible refine Kd.C_alloc ?_ _) | (with_reducible refine Kd.C_drewN ?_ _) | (with_reducible refine Kd.C_drew ?_))); (case side2 => exact (Kd.R_reads' HO_7.out).2.1); rintro e w67 ⟨rfl, hb⟩; refine ⟨_, rfl, ?_⟩; have n0_ := Aside0.mk (Kd.R_below (by (with_reducible repeat (first | apply Kd.R_alloc | apply Kd.R_drewN | apply Kd.R_drew)); exact HO_7.out) hb); have n1_ := Aside0.mk (Kd.R_below (by (with_reducible repeat (first | apply Kd.R_alloc | apply Kd.R_drewN | apply Kd.R_drew)); exact HO_77.out) hb); have n2_ := Aside0.mk (below_step (by repeat (first | (with_reducible first | exact HB.out | apply below_alloc | apply pw_below_drewN | apply below_drew1) | exact HB.out)) hb); clear HO_7; clear HO_77; clear HB; have HO_7 := n0_; have HO_77 := n1_; have HB := n2_; clear n0_ n1_ n2_; (try clear hb); (try clear hb2); (try clear hk); (try clear hi); have p143 : 0 ≤ (x79_2 : Int) := of_decide_eq_true (by first | (with_reducible assumption) | assumption); have q143 : x79_2 < (t126.length : Int) := of_decide_eq_true (by first | (with_reducible assumption) | assumption); obtain ⟨ad143, e143, hx143_0⟩ := Kd.at_int (Kd.R_reads' HO_7.out).2.2 x79_2 p143 q143; obtain rfl : ad136 = ad143 := (by injection e143); replace p143 := eq_true p143; replace q143 := eq_true q143))
                                go_ret
                                exact ⟨by first | rfl | (simp [errW_none, errW_some] <;> rfl) | (simp [*, errW_none, errW_some] <;> rfl), by repeat (first | (with_reducible first | exact HB.out | apply below_alloc | apply pw_below_drewN | apply below_drew1) | exact HB.out)⟩
                            · rw [if_neg c59] at H
                              have c59b0 : (t141 == 0) = false := beq_eq_false_iff_ne.mpr c59
                              have c59b1 : (t141 != 0) = true := bne_iff_ne.mpr c59
                              obtain rfl := Option.some.inj H
                              have p135 : 0 ≤ (x79_2 : Int) := of_decide_eq_true (by first | (with_reducible assumption) | assumption)
                              have q135 : x79_2 < (t122.length : Int) := of_decide_eq_true (by first | (with_reducible assumption) | assumption)
                              obtain ⟨ad135, e135, hx135_0⟩ := Kd.at_int (Kd.R_reads' HO_77.out).2.2 x79_2 p135 q135
                              cases e135
                              replace p135 := eq_true p135
                              replace q135 := eq_true q135
                              have p136 : 0 ≤ (x79_2 : Int) := of_decide_eq_true (by first | (with_reducible assumption) | assumption)
                              have q136 : x79_2 < (t126.length : Int) := of_decide_eq_true (by first | (with_reducible assumption) | assumption)
                              obtain ⟨ad136, e136, hx136_0⟩ := Kd.at_int (Kd.R_reads' HO_7.out).2.2 x79_2 p136 q136
                              cases e136
                              replace p136 := eq_true p136
                              replace q136 := eq_true q136
                              go_wp2_with (first | ((with_reducible refine gate_callee (f := 7) rfl ?_); refine goesL_ (some 94) rfl rfl Try.func7 (by kernel_rfl) rfl #[.slice (some ad136) t126.length co9, .int .u64 (IntKind.u64.wrap ((rd t126 x79_2) - 1))] rfl (by (try simp only [List.map_toArray, List.map_cons, List.map_nil]); first | done | rfl | (simp only [List.length_drop, List.length_take]; rfl)) ?_; (with_reducible refine (degree_Pick.calls _ _ t126 (IntKind.u64.wrap ((rd t126 x79_2) - 1)) t137 t138 _ ?side1 ?side2 A31.out).mono ?_); (case side1 => repeat (first | exact (Kd.R_reads' HO_7.out).2.2 | (with_reducible refine Kd.C_alloc ?_ _) | (with_reducible refine Kd.C_drewN ?_ _) | (with_reducible refine Kd.C_drew ?_))); (case side2 => exact (Kd.R_reads' HO_7.out).2.1); rintro e w68 ⟨rfl, hb⟩; refine ⟨_, rfl, ?_⟩; have n0_ := Aside0.mk (Kd.R_below (by (with_reducible repeat (first | apply Kd.R_alloc | apply Kd.R_drewN | apply Kd.R_drew)); exact HO_7.out) hb); have n1_ := Aside0.mk (Kd.R_below (by (with_reducible repeat (first | apply Kd.R_alloc | apply Kd.R_drewN | apply Kd.R_drew)); exact HO_77.out) hb); have n2_ := Aside0.mk (below_step (by repeat (first | (with_reducible first | exact HB.out | apply below_alloc | apply pw_below_drewN | apply below_drew1) | exact HB.out)) hb); clear HO_7; clear HO_77; clear HB; have HO_7 := n0_; have HO_77 := n1_; have HB := n2_; clear n0_ n1_ n2_; (try clear hb); (try clear hb2); (try clear hk); (try clear hi); have p139 : 0 ≤ (x79_2 : Int) := of_decide_eq_true (by first | (with_reducible assumption) | assumption); have q139 : x79_2 < (t126.length : Int) := of_decide_eq_true (by first | (with_reducible assumption) | assumption); obtain ⟨ad139, e139, hx139_0⟩ := Kd.at_int (Kd.R_reads' HO_7.out).2.2 x79_2 p139 q139; obtain rfl : ad136 = ad139 := (by injection e139); replace p139 := eq_true p139; replace q139 := eq_true q139) | ((with_reducible refine gate_callee (f := 7) rfl ?_); refine goesL_ (some 103) rfl rfl Try.func7 (by kernel_rfl) rfl #[.slice (some ad136) t126.length co9, .int .u64 (rd t126 x79_2)] rfl (by (try simp only [List.map_toArray, List.map_cons, List.map_nil]); first | done | rfl | (simp only [List.length_drop, List.length_take]; rfl)) ?_; (with_reducible refine (degree_Pick.calls _ _ t126 (rd t126 x79_2) t140 t141 _ ?side1 ?side2 A32.out).mono ?_); (case side1 => repeat (first | exact (Kd.R_reads' HO_7.out).2.2 | (with_reducible refine Kd.C_alloc ?_ _) | (with_reducible refine Kd.C_drewN ?_ _) | (with_reducible refine Kd.C_drew ?_))); (case side2 => exact (Kd.R_reads' HO_7.out).2.1); rintro e w69 ⟨rfl, hb⟩; refine ⟨_, rfl, ?_⟩; have n0_ := Aside0.mk (Kd.R_below (by (with_reducible repeat (first | apply Kd.R_alloc | apply Kd.R_drewN | apply Kd.R_drew)); exact HO_7.out) hb); have n1_ := Aside0.mk (Kd.R_below (by (with_reducible repeat (first | apply Kd.R_alloc | apply Kd.R_drewN | apply Kd.R_drew)); exact HO_77.out) hb); have n2_ := Aside0.mk (below_step (by repeat (first | (with_reducible first | exact HB.out | apply below_alloc | apply pw_below_drewN | apply below_drew1) | exact HB.out)) hb); clear HO_7; clear HO_77; clear HB; have HO_7 := n0_; have HO_77 := n1_; have HB := n2_; clear n0_ n1_ n2_; (try clear hb); (try clear hb2); (try clear hk); (try clear hi); have p143 : 0 ≤ (x79_2 : Int) := of_decide_eq_true (by first | (with_reducible assumption) | assumption); have q143 : x79_2 < (t126.length : Int) := of_decide_eq_true (by first | (with_reducible assumption) | assumption); obtain ⟨ad143, e143, hx143_0⟩ := Kd.at_int (Kd.R_reads' HO_7.out).2.2 x79_2 p143 q143; obtain rfl : ad136 = ad143 := (by injection e143); replace p143 := eq_true p143; replace q143 := eq_true q143))
                              go_ret
                              exact ⟨by first | rfl | (simp [errW_none, errW_some] <;> rfl) | (simp [*, errW_none, errW_some] <;> rfl), by repeat (first | (with_reducible first | exact HB.out | apply below_alloc | apply pw_below_drewN | apply below_drew1) | exact HB.out)⟩
                          · rw [if_neg c58] at H
                            have c58b0 : (t138 == 0) = false := beq_eq_false_iff_ne.mpr c58
                            have c58b1 : (t138 != 0) = true := bne_iff_ne.mpr c58
                            obtain rfl := Option.some.inj H
                            have p135 : 0 ≤ (x79_2 : Int) := of_decide_eq_true (by first | (with_reducible assumption) | assumption)
                            have q135 : x79_2 < (t122.length : Int) := of_decide_eq_true (by first | (with_reducible assumption) | assumption)
                            obtain ⟨ad135, e135, hx135_0⟩ := Kd.at_int (Kd.R_reads' HO_77.out).2.2 x79_2 p135 q135
                            cases e135
                            replace p135 := eq_true p135
                            replace q135 := eq_true q135
                            have p136 : 0 ≤ (x79_2 : Int) := of_decide_eq_true (by first | (with_reducible assumption) | assumption)
                            have q136 : x79_2 < (t126.length : Int) := of_decide_eq_true (by first | (with_reducible assumption) | assumption)
                            obtain ⟨ad136, e136, hx136_0⟩ := Kd.at_int (Kd.R_reads' HO_7.out).2.2 x79_2 p136 q136
                            cases e136
                            replace p136 := eq_true p136
                            replace q136 := eq_true q136
                            go_wp2_with (first | ((with_reducible refine gate_callee (f := 7) rfl ?_); refine goesL_ (some 94) rfl rfl Try.func7 (by kernel_rfl) rfl #[.slice (some ad136) t126.length co9, .int .u64 (IntKind.u64.wrap ((rd t126 x79_2) - 1))] rfl (by (try simp only [List.map_toArray, List.map_cons, List.map_nil]); first | done | rfl | (simp only [List.length_drop, List.length_take]; rfl)) ?_; (with_reducible refine (degree_Pick.calls _ _ t126 (IntKind.u64.wrap ((rd t126 x79_2) - 1)) t137 t138 _ ?side1 ?side2 A31.out).mono ?_); (case side1 => repeat (first | exact (Kd.R_reads' HO_7.out).2.2 | (with_reducible refine Kd.C_alloc ?_ _) | (with_reducible refine Kd.C_drewN ?_ _) | (with_reducible refine Kd.C_drew ?_))); (case side2 => exact (Kd.R_reads' HO_7.out).2.1); rintro e w70 ⟨rfl, hb⟩; refine ⟨_, rfl, ?_⟩; have n0_ := Aside0.mk (Kd.R_below (by (with_reducible repeat (first | apply Kd.R_alloc | apply Kd.R_drewN | apply Kd.R_drew)); exact HO_7.out) hb); have n1_ := Aside0.mk (Kd.R_below (by (with_reducible repeat (first | apply Kd.R_alloc | apply Kd.R_drewN | apply Kd.R_drew)); exact HO_77.out) hb); have n2_ := Aside0.mk (below_step (by repeat (first | (with_reducible first | exact HB.out | apply below_alloc | apply pw_below_drewN | apply below_drew1) | exact HB.out)) hb); clear HO_7; clear HO_77; clear HB; have HO_7 := n0_; have HO_77 := n1_; have HB := n2_; clear n0_ n1_ n2_; (try clear hb); (try clear hb2); (try clear hk); (try clear hi); have p139 : 0 ≤ (x79_2 : Int) := of_decide_eq_true (by first | (with_reducible assumption) | assumption); have q139 : x79_2 < (t126.length : Int) := of_decide_eq_true (by first | (with_reducible assumption) | assumption); obtain ⟨ad139, e139, hx139_0⟩ := Kd.at_int (Kd.R_reads' HO_7.out).2.2 x79_2 p139 q139; obtain rfl : ad136 = ad139 := (by injection e139); replace p139 := eq_true p139; replace q139 := eq_true q139) | ((with_reducible refine gate_callee (f := 7) rfl ?_); refine goesL_ (some 103) rfl rfl Try.func7 (by kernel_rfl) rfl #[.slice (some ad136) t126.length co9, .int .u64 (rd t126 x79_2)] rfl (by (try simp only [List.map_toArray, List.map_cons, List.map_nil]); first | done | rfl | (simp only [List.length_drop, List.length_take]; rfl)) ?_; (with_reducible refine (degree_Pick.calls _ _ t126 (rd t126 x79_2) t140 t141 _ ?side1 ?side2 A32.out).mono ?_); (case side1 => repeat (first | exact (Kd.R_reads' HO_7.out).2.2 | (with_reducible refine Kd.C_alloc ?_ _) | (with_reducible refine Kd.C_drewN ?_ _) | (with_reducible refine Kd.C_drew ?_))); (case side2 => exact (Kd.R_reads' HO_7.out).2.1); rintro e w71 ⟨rfl, hb⟩; refine ⟨_, rfl, ?_⟩; have n0_ := Aside0.mk (Kd.R_below (by (with_reducible repeat (first | apply Kd.R_alloc | apply Kd.R_drewN | apply Kd.R_drew)); exact HO_7.out) hb); have n1_ := Aside0.mk (Kd.R_below (by (with_reducible repeat (first | apply Kd.R_alloc | apply Kd.R_drewN | apply Kd.R_drew)); exact HO_77.out) hb); have n2_ := Aside0.mk (below_step (by repeat (first | (with_reducible first | exact HB.out | apply below_alloc | apply pw_below_drewN | apply below_drew1) | exact HB.out)) hb); clear HO_7; clear HO_77; clear HB; have HO_7 := n0_; have HO_77 := n1_; have HB := n2_; clear n0_ n1_ n2_; (try clear hb); (try clear hb2); (try clear hk); (try clear hi); have p143 : 0 ≤ (x79_2 : Int) := of_decide_eq_true (by first | (with_reducible assumption) | assumption); have q143 : x79_2 < (t126.length : Int) := of_decide_eq_true (by first | (with_reducible assumption) | assumption); obtain ⟨ad143, e143, hx143_0⟩ := Kd.at_int (Kd.R_reads' HO_7.out).2.2 x79_2 p143 q143; obtain rfl : ad136 = ad143 := (by injection e143); replace p143 := eq_true p143; replace q143 := eq_true q143))
                            go_ret
                            exact ⟨by first | rfl | (simp [errW_none, errW_some] <;> rfl) | (simp [*, errW_none, errW_some] <;> rfl), by repeat (first | (with_reducible first | exact HB.out | apply below_alloc | apply pw_below_drewN | apply below_drew1) | exact HB.out)⟩
                        · rw [if_neg c57] at H
                          have c57b0 : ((rd t126 x79_2) == (IntKind.u64.wrap (x11_2 + (rd t122 x79_2)))) = false := beq_eq_false_iff_ne.mpr c57
                          have c57b1 : ((rd t126 x79_2) != (IntKind.u64.wrap (x11_2 + (rd t122 x79_2)))) = true := bne_iff_ne.mpr c57
                          obtain rfl := Option.some.inj H
                          have p135 : 0 ≤ (x79_2 : Int) := of_decide_eq_true (by first | (with_reducible assumption) | assumption)
                          have q135 : x79_2 < (t122.length : Int) := of_decide_eq_true (by first | (with_reducible assumption) | assumption)
                          obtain ⟨ad135, e135, hx135_0⟩ := Kd.at_int (Kd.R_reads' HO_77.out).2.2 x79_2 p135 q135
                          cases e135
                          replace p135 := eq_true p135
                          replace q135 := eq_true q135
                          have p136 : 0 ≤ (x79_2 : Int) := of_decide_eq_true (by first | (with_reducible assumption) | assumption)
                          have q136 : x79_2 < (t126.length : Int) := of_decide_eq_true (by first | (with_reducible assumption) | assumption)
                          obtain ⟨ad136, e136, hx136_0⟩ := Kd.at_int (Kd.R_reads' HO_7.out).2.2 x79_2 p136 q136
                          cases e136
                          replace p136 := eq_true p136
                          replace q136 := eq_true q136
                          go_wp2_with (first | ((with_reducible refine gate_callee (f := 7) rfl ?_); refine goesL_ (some 94) rfl rfl Try.func7 (by kernel_rfl) rfl #[.slice (some ad136) t126.length co9, .int .u64 (IntKind.u64.wrap ((rd t126 x79_2) - 1))] rfl (by (try simp only [List.map_toArray, List.map_cons, List.map_nil]); first | done | rfl | (simp only [List.length_drop, List.length_take]; rfl)) ?_; (with_reducible refine (degree_Pick.calls _ _ t126 (IntKind.u64.wrap ((rd t126 x79_2) - 1)) t137 t138 _ ?side1 ?side2 A31.out).mono ?_); (case side1 => repeat (first | exact (Kd.R_reads' HO_7.out).2.2 | (with_reducible refine Kd.C_alloc ?_ _) | (with_reducible refine Kd.C_drewN ?_ _) | (with_reducible refine Kd.C_drew ?_))); (case side2 => exact (Kd.R_reads' HO_7.out).2.1); rintro e w72 ⟨rfl, hb⟩; refine ⟨_, rfl, ?_⟩; have n0_ := Aside0.mk (Kd.R_below (by (with_reducible repeat (first | apply Kd.R_alloc | apply Kd.R_drewN | apply Kd.R_drew)); exact HO_7.out) hb); have n1_ := Aside0.mk (Kd.R_below (by (with_reducible repeat (first | apply Kd.R_alloc | apply Kd.R_drewN | apply Kd.R_drew)); exact HO_77.out) hb); have n2_ := Aside0.mk (below_step (by repeat (first | (with_reducible first | exact HB.out | apply below_alloc | apply pw_below_drewN | apply below_drew1) | exact HB.out)) hb); clear HO_7; clear HO_77; clear HB; have HO_7 := n0_; have HO_77 := n1_; have HB := n2_; clear n0_ n1_ n2_; (try clear hb); (try clear hb2); (try clear hk); (try clear hi); have p139 : 0 ≤ (x79_2 : Int) := of_decide_eq_true (by first | (with_reducible assumption) | assumption); have q139 : x79_2 < (t126.length : Int) := of_decide_eq_true (by first | (with_reducible assumption) | assumption); obtain ⟨ad139, e139, hx139_0⟩ := Kd.at_int (Kd.R_reads' HO_7.out).2.2 x79_2 p139 q139; obtain rfl : ad136 = ad139 := (by injection e139); replace p139 := eq_true p139; replace q139 := eq_true q139) | ((with_reducible refine gate_callee (f := 7) rfl ?_); refine goesL_ (some 103) rfl rfl Try.func7 (by kernel_rfl) rfl #[.slice (some ad136) t126.length co9, .int .u64 (rd t126 x79_2)] rfl (by (try simp only [List.map_toArray, List.map_cons, List.map_nil]); first | done | rfl | (simp only [List.length_drop, List.length_take]; rfl)) ?_; (with_reducible refine (degree_Pick.calls _ _ t126 (rd t126 x79_2) t140 t141 _ ?side1 ?side2 A32.out).mono ?_); (case side1 => repeat (first | exact (Kd.R_reads' HO_7.out).2.2 | (with_reducible refine Kd.C_alloc ?_ _) | (with_reducible refine Kd.C_drewN ?_ _) | (with_reducible refine Kd.C_drew ?_))); (case side2 => exact (Kd.R_reads' HO_7.out).2.1); rintro e w73 ⟨rfl, hb⟩; refine ⟨_, rfl, ?_⟩; have n0_ := Aside0.mk (Kd.R_below (by (with_reducible repeat (first | apply Kd.R_alloc | apply Kd.R_drewN | apply Kd.R_drew)); exact HO_7.out) hb); have n1_ := Aside0.mk (Kd.R_below (by (with_reducible repeat (first | apply Kd.R_alloc | apply Kd.R_drewN | apply Kd.R_drew)); exact HO_77.out) hb); have n2_ := Aside0.mk (below_step (by repeat (first | (with_reducible first | exact HB.out | apply below_alloc | apply pw_below_drewN | apply below_drew1) | exact HB.out)) hb); clear HO_7; clear HO_77; clear HB; have HO_7 := n0_; have HO_77 := n1_; have HB := n2_; clear n0_ n1_ n2_; (try clear hb); (try clear hb2); (try clear hk); (try clear hi); have p143 : 0 ≤ (x79_2 : Int) := of_decide_eq_true (by first | (with_reducible assumption) | assumption); have q143 : x79_2 < (t126.length : Int) := of_decide_eq_true (by first | (with_reducible assumption) | assumption); obtain ⟨ad143, e143, hx143_0⟩ := Kd.at_int (Kd.R_reads' HO_7.out).2.2 x79_2 p143 q143; obtain rfl : ad136 = ad143 := (by injection e143); replace p143 := eq_true p143; replace q143 := eq_true q143))
                          go_ret
                          exact ⟨by first | rfl | (simp [errW_none, errW_some] <;> rfl) | (simp [*, errW_none, errW_some] <;> rfl), by repeat (first | (with_reducible first | exact HB.out | apply below_alloc | apply pw_below_drewN | apply below_drew1) | exact HB.out)⟩
                  · rw [if_neg c30] at H
                    exact absurd H (by simp)
                · rw [if_neg c29] at H
                  exact absurd H (by simp)
              · rw [if_neg c28] at H
                exact absurd H (by simp)
            · rw [if_neg c27] at H
              have c27b0 : decide (x79_2 < (t122.length : Int)) = false := decide_eq_false c27
              clear c27
              replace H := Option.bind_eq_some_iff.mp H
              obtain ⟨⟨t133, t134⟩, A740, H⟩ := H
              replace H : (if t134 = 0 then (if (wrap64 (t133 * t133)) ≤ (wrap64 ((Int.tmod (wrap64 ((Int.tmod a0 64) + 64)) 64) + 1)) then (some (decide ((wrap64 ((wrap64 (t133 + 1)) * (wrap64 (t133 + 1)))) > (wrap64 ((Int.tmod (wrap64 ((Int.tmod a0 64) + 64)) 64) + 1))))) else (some false)) else (some false)) = some r := H
              have A74 := Aside0.mk A740
              clear A740
              by_cases c75 : t134 = 0
              · rw [if_pos c75] at H
                have c75b0 : (t134 == 0) = true := beq_iff_eq.mpr c75
                have c75b1 : (t134 != 0) = false := bne_eq_false_iff_eq.mpr c75
                clear c75
                by_cases c76 : (wrap64 (t133 * t133)) ≤ (wrap64 ((Int.tmod (wrap64 ((Int.tmod a0 64) + 64)) 64) + 1))
                · rw [if_pos c76] at H
                  have c76b0 : decide ((wrap64 (t133 * t133)) ≤ (wrap64 ((Int.tmod (wrap64 ((Int.tmod a0 64) + 64)) 64) + 1))) = true := decide_eq_true c76
                  clear c76
                  obtain rfl := Option.some.inj H
                  go_wp2_with (first | ((with_reducible refine gate_callee (f := 11) rfl ?_); refine goesL_ (some 144) rfl rfl Try.func11 (by kernel_rfl) rfl #[.int .i64 (wrap64 ((Int.tmod (wrap64 ((Int.tmod a0 64) + 64)) 64) + 1))] rfl (by (try simp only [List.map_toArray, List.map_cons, List.map_nil]); first | done | rfl | (simp only [List.length_drop, List.length_take]; rfl)) ?_; (with_reducible refine (degree_Root.calls k2 (wrap64 ((Int.tmod (wrap64 ((Int.tmod a0 64) + 64)) 64) + 1)) t133 t134 _ A74.out).mono ?_); rintro e w' ⟨rfl, ⟨nd, rfl⟩⟩; refine ⟨_, rfl, ?_⟩))
                  go_ret
                  exact ⟨by first | rfl | (simp [errW_none, errW_some] <;> rfl) | (simp [*, errW_none, errW_some] <;> rfl), by repeat (first | (with_reducible first | exact HB.out | apply below_alloc | apply pw_below_drewN | apply below_drew1) | exact HB.out)⟩
                · rw [if_neg c76] at H
                  have c76b0 : decide ((wrap64 (t133 * t133)) ≤ (wrap64 ((Int.tmod (wrap64 ((Int.tmod a0 64) + 64)) 64) + 1))) = false := decide_eq_false c76
                  clear c76
                  obtain rfl := Option.some.inj H
                  go_wp2_with (first | ((with_reducible refine gate_callee (f := 11) rfl ?_); refine goesL_ (some 144) rfl rfl Try.func11 (by kernel_rfl) rfl #[.int .i64 (wrap64 ((Int.tmod (wrap64 ((Int.tmod a0 64) + 64)) 64) + 1))] rfl (by (try simp only [List.map_toArray, List.map_cons, List.map_nil]); first | done | rfl | (simp only [List.length_drop, List.length_take]; rfl)) ?_; (with_reducible refine (degree_Root.calls k2 (wrap64 ((Int.tmod (wrap64 ((Int.tmod a0 64) + 64)) 64) + 1)) t133 t134 _ A74.out).mono ?_); rintro e w' ⟨rfl, ⟨nd, rfl⟩⟩; refine ⟨_, rfl, ?_⟩))
                  go_ret
                  exact ⟨by first | rfl | (simp [errW_none, errW_some] <;> rfl) | (simp [*, errW_none, errW_some] <;> rfl), by repeat (first | (with_reducible first | exact HB.out | apply below_alloc | apply pw_below_drewN | apply below_drew1) | exact HB.out)⟩
              · rw [if_neg c75] at H
                have c75b0 : (t134 == 0) = false := beq_eq_false_iff_ne.mpr c75
                have c75b1 : (t134 != 0) = true := bne_iff_ne.mpr c75
                obtain rfl := Option.some.inj H
                go_wp2_with (first | ((with_reducible refine gate_callee (f := 11) rfl ?_); refine goesL_ (some 144) rfl rfl Try.func11 (by kernel_rfl) rfl #[.int .i64 (wrap64 ((Int.tmod (wrap64 ((Int.tmod a0 64) + 64)) 64) + 1))] rfl (by (try simp only [List.map_toArray, List.map_cons, List.map_nil]); first | done | rfl | (simp only [List.length_drop, List.length_take]; rfl)) ?_; (with_reducible refine (degree_Root.calls k2 (wrap64 ((Int.tmod (wrap64 ((Int.tmod a0 64) + 64)) 64) + 1)) t133 t134 _ A74.out).mono ?_); rintro e w' ⟨rfl, ⟨nd, rfl⟩⟩; refine ⟨_, rfl, ?_⟩))
                go_ret
                exact ⟨by first | rfl | (simp [errW_none, errW_some] <;> rfl) | (simp [*, errW_none, errW_some] <;> rfl), by repeat (first | (with_reducible first | exact HB.out | apply below_alloc | apply pw_below_drewN | apply below_drew1) | exact HB.out)⟩

/-- THE ONE PURE STATEMENT of downpourlaw07_DegreeSums: yours. -/
def downpourlaw07_DegreeSums.Pure : Prop := ∀ (a0 : Int) (a1 : Int), (Lit.int .i64 a0).wf = true → (Lit.int .u64 a1).wf = true → ∃ k, downpourlaw07_DegreeSums.f k a0 a1 = some true
theorem downpourlaw07_DegreeSums.walk (P : downpourlaw07_DegreeSums.Pure) (a0 : Int) (a1 : Int) (w : World) (w0 : (Lit.int .i64 a0).wf = true) (w1 : (Lit.int .u64 a1).wf = true) :
    Calls Try.prog 6 #[.int .i64 a0, .int .u64 a1] w fun e w' => e = .returned (.bool true) ∧ Below w.heap.size w w' := by
  obtain ⟨k, h⟩ := P a0 a1 w0 w1
  refine (downpourlaw07_DegreeSums.calls k a0 a1 true w h).mono ?_
  rintro e w' ⟨rfl, hd⟩
  exact ⟨rfl, hd⟩

end Go.Proofs.Ytjgcfdiicjbdoaa.Q

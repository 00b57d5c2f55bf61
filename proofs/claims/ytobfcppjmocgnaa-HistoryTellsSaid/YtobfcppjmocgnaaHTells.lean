/-
  HistoryTells, walked by hand: for every history and any two spans it returns true.
-/
import Derived.Test.YtobfcppjmocgnaaPureTells
import Derived.Test.YtobfcppjmocgnaaHSpans
import Derived.Deep.RegionHeld3
namespace Go.Proofs.Ytobfcppjmocgnaa.Own
open Go.RowKit Go.Shelf Go.Proofs.YtobfcppjmocgnaaW.PrintWords Go.Proofs.YtobfcppjmocgnaaW.PrintLast Go.Proofs.Ytobfcppjmocgnaa.P
set_option linter.unusedVariables false

set_option maxRecDepth 100000 in
set_option maxHeartbeats 16000000 in
theorem tellsLaw_calls (A : Option Addr) (c : Nat) (l0 : List S53) (sa sb : S41) (Aa Ab : Option Addr) (ca cb : Nat) (w : World) (hC : Kd.C k53 w A l0.length l0) (hc : l0.length ≤ c) :
    Calls Try.prog 5 #[.slice A l0.length c, .agg (spc sa Aa ca), .agg (spc sb Ab cb)] w fun e w' => e = .returned (.bool true) ∧ Below w.heap.size w w' := by
  have hm := hC.2.1
  obtain ⟨l, hl⟩ : ∃ l, l0.take (min l0.length 50) = l := ⟨_, rfl⟩
  have hlen : l.length = min l0.length 50 := by rw [← hl, List.length_take]; omega
  have hCl : Kd.C k53 w A l.length l := by rw [← hl]; exact Kd.C_take hC (by omega)
  have hl50 : l.length ≤ 50 := by omega
  have hlc : l.length ≤ c := by omega
  obtain ⟨hd, hE⟩ := evs_of hCl
  have HC := Aside0.mk hCl
  have HE := Aside0.mk hE
  have HLEN := Aside0.mk hlen.symm
  obtain ⟨sp, hsp⟩ : ∃ sp, sp = if okH l then spTo l hd l.length else [] := ⟨_, rfl⟩
  have HSP := Aside0.mk hsp
  have HB0 : Aside0 (Below w.heap.size w ((w.alloc (.cells (spc sa Aa ca) 41)).alloc (.cells (spc sb Ab cb) 41))) := ⟨((Below.refl _ _).alloc (Nat.le_refl _) _).alloc (by simp) _⟩
  clear hC hCl hE hlen hl hsp
  simp only [spc]
  cases ho : okH l with
  | false =>
    have HO := Aside0.mk ho
    clear ho
    have hs0 : Aside0 ((openTo sp sp.length).length = 0) := ⟨by rw [HSP.out, HO.out]; rfl⟩
    go_enter Try.func5, Try.ntmps5
    go_wp2_with (first
      | (go_at_call 7; refine (few_calls A l0.length c _ hc hm).mono ?_; rintro e w' ⟨rfl, rfl⟩; rw [HLEN.out])
      | (go_at_call 14; refine (alone_calls A c l hd _ (Kd.C_below HC.out HB0.out) (HE.out.below HB0.out) hl50).mono ?_; rintro e w1 ⟨rfl, hb⟩; rw [HO.out]; have HB1 := Aside0.mk (HB0.out.trans (hb.mono HB0.out.size)); have HD1 := Aside0.mk hb; clear hb)
      | (go_at_call 15; refine (open_calls A c l hd _ (Kd.C_below HC.out HB1.out) (HE.out.below HB1.out) hl50 sp HSP.out).mono ?_; rintro e w2 ⟨v, rfl, ho, hb⟩; rw [HO.out]; obtain ⟨B, d, rfl, hle, hr⟩ := ints_of ho; have HB2 := Aside0.mk (HB1.out.trans (hb.mono HB1.out.size)); have HI2 := Aside0.mk hr; have HL2 := Aside0.mk hle; have HD2 := Aside0.mk (HD1.out.trans (hb.mono HD1.out.size)); rw [hs0.out]; clear hb ho hr hle)
    )
    have bx := (blk_below (blk_alloc (blk_new w (.cells (spc sa Aa ca) 41)) (.cells (spc sb Ab cb) 41)) HD2.out)
    have by_ : w2.heap[w.heap.size + 1]? = some (.cells (spc sb Ab cb) 41 (0, 0)) := by
      have := blk_new (w.alloc (.cells (spc sa Aa ca) 41)) (.cells (spc sb Ab cb) 41)
      rw [World.size_alloc] at this
      exact blk_below this HD2.out
    obtain ⟨a0, a1, a2, a3, a4, a5, a6, a7, a8, a9, a10, a11, a12, a13⟩ := spc_cells bx
    obtain ⟨b0, b1, b2, b3, b4, b5, b6, b7, b8, b9, b10, b11, b12, b13⟩ := spc_cells by_
    have hB2 := HB2.out
    have hD2 := Below.refl w2.heap.size w2
    clear bx by_
    have T : (fun w' : World => Below w.heap.size w w' ∧ Below w2.heap.size w2 w' ∧ w'.cell? ⟨w.heap.size, 0, none⟩ = some (.int .i64 sa.f0) ∧ w'.cell? ⟨w.heap.size, 1, none⟩ = some (.int .i64 sa.f1) ∧ w'.cell? ⟨w.heap.size, 2, none⟩ = some (.int .i64 sa.f2.f0) ∧ w'.cell? ⟨w.heap.size, 3, none⟩ = some (.int .u64 sa.f2.f1) ∧ w'.cell? ⟨w.heap.size, 4, none⟩ = some (.int .i64 sa.f2.f2) ∧ w'.cell? ⟨w.heap.size, 5, none⟩ = some (.int .i64 sa.f2.f3) ∧ w'.cell? ⟨w.heap.size, 6, none⟩ = some (.int .i64 sa.f2.f4) ∧ w'.cell? ⟨w.heap.size, 7, none⟩ = some (.int .u64 sa.f2.f5.f0) ∧ w'.cell? ⟨w.heap.size, 8, none⟩ = some (.string sa.f2.f5.f1) ∧ w'.cell? ⟨w.heap.size, 9, none⟩ = some (.int .i64 sa.f3.f0) ∧ w'.cell? ⟨w.heap.size, 10, none⟩ = some (.int .i64 sa.f3.f1) ∧ w'.cell? ⟨w.heap.size, 11, none⟩ = some (.slice Aa sa.f3.f2.length ca) ∧ w'.cell? ⟨w.heap.size, 12, none⟩ = some (.int .i64 sa.f4) ∧ w'.cell? ⟨w.heap.size, 13, none⟩ = some (.int .i64 sa.f5) ∧ w'.cell? ⟨w.heap.size + 1, 0, none⟩ = some (.int .i64 sb.f0) ∧ w'.cell? ⟨w.heap.size + 1, 1, none⟩ = some (.int .i64 sb.f1) ∧ w'.cell? ⟨w.heap.size + 1, 2, none⟩ = some (.int .i64 sb.f2.f0) ∧ w'.cell? ⟨w.heap.size + 1, 3, none⟩ = some (.int .u64 sb.f2.f1) ∧ w'.cell? ⟨w.heap.size + 1, 4, none⟩ = some (.int .i64 sb.f2.f2) ∧ w'.cell? ⟨w.heap.size + 1, 5, none⟩ = some (.int .i64 sb.f2.f3) ∧ w'.cell? ⟨w.heap.size + 1, 6, none⟩ = some (.int .i64 sb.f2.f4) ∧ w'.cell? ⟨w.heap.size + 1, 7, none⟩ = some (.int .u64 sb.f2.f5.f0) ∧ w'.cell? ⟨w.heap.size + 1, 8, none⟩ = some (.string sb.f2.f5.f1) ∧ w'.cell? ⟨w.heap.size + 1, 9, none⟩ = some (.int .i64 sb.f3.f0) ∧ w'.cell? ⟨w.heap.size + 1, 10, none⟩ = some (.int .i64 sb.f3.f1) ∧ w'.cell? ⟨w.heap.size + 1, 11, none⟩ = some (.slice Ab sb.f3.f2.length cb) ∧ w'.cell? ⟨w.heap.size + 1, 12, none⟩ = some (.int .i64 sb.f4) ∧ w'.cell? ⟨w.heap.size + 1, 13, none⟩ = some (.int .i64 sb.f5)) w2.drew := by
      (go_split_ands; refine ⟨?_, ?_, ?_, ?_, ?_, ?_, ?_, ?_, ?_, ?_, ?_, ?_, ?_, ?_, ?_, ?_, ?_, ?_, ?_, ?_, ?_, ?_, ?_, ?_, ?_, ?_, ?_, ?_, ?_, ?_⟩ <;> first | exact Below.drew (by assumption) | exact pw_cell_below hb (by assumption) | exact Below.trans (by assumption) (Below.mono hb (Below.size (by assumption))) | go_keep | assumption)
    go_region_held3 (fun w' => Below w.heap.size w w' ∧ Below w2.heap.size w2 w' ∧ w'.cell? ⟨w.heap.size, 0, none⟩ = some (.int .i64 sa.f0) ∧ w'.cell? ⟨w.heap.size, 1, none⟩ = some (.int .i64 sa.f1) ∧ w'.cell? ⟨w.heap.size, 2, none⟩ = some (.int .i64 sa.f2.f0) ∧ w'.cell? ⟨w.heap.size, 3, none⟩ = some (.int .u64 sa.f2.f1) ∧ w'.cell? ⟨w.heap.size, 4, none⟩ = some (.int .i64 sa.f2.f2) ∧ w'.cell? ⟨w.heap.size, 5, none⟩ = some (.int .i64 sa.f2.f3) ∧ w'.cell? ⟨w.heap.size, 6, none⟩ = some (.int .i64 sa.f2.f4) ∧ w'.cell? ⟨w.heap.size, 7, none⟩ = some (.int .u64 sa.f2.f5.f0) ∧ w'.cell? ⟨w.heap.size, 8, none⟩ = some (.string sa.f2.f5.f1) ∧ w'.cell? ⟨w.heap.size, 9, none⟩ = some (.int .i64 sa.f3.f0) ∧ w'.cell? ⟨w.heap.size, 10, none⟩ = some (.int .i64 sa.f3.f1) ∧ w'.cell? ⟨w.heap.size, 11, none⟩ = some (.slice Aa sa.f3.f2.length ca) ∧ w'.cell? ⟨w.heap.size, 12, none⟩ = some (.int .i64 sa.f4) ∧ w'.cell? ⟨w.heap.size, 13, none⟩ = some (.int .i64 sa.f5) ∧ w'.cell? ⟨w.heap.size + 1, 0, none⟩ = some (.int .i64 sb.f0) ∧ w'.cell? ⟨w.heap.size + 1, 1, none⟩ = some (.int .i64 sb.f1) ∧ w'.cell? ⟨w.heap.size + 1, 2, none⟩ = some (.int .i64 sb.f2.f0) ∧ w'.cell? ⟨w.heap.size + 1, 3, none⟩ = some (.int .u64 sb.f2.f1) ∧ w'.cell? ⟨w.heap.size + 1, 4, none⟩ = some (.int .i64 sb.f2.f2) ∧ w'.cell? ⟨w.heap.size + 1, 5, none⟩ = some (.int .i64 sb.f2.f3) ∧ w'.cell? ⟨w.heap.size + 1, 6, none⟩ = some (.int .i64 sb.f2.f4) ∧ w'.cell? ⟨w.heap.size + 1, 7, none⟩ = some (.int .u64 sb.f2.f5.f0) ∧ w'.cell? ⟨w.heap.size + 1, 8, none⟩ = some (.string sb.f2.f5.f1) ∧ w'.cell? ⟨w.heap.size + 1, 9, none⟩ = some (.int .i64 sb.f3.f0) ∧ w'.cell? ⟨w.heap.size + 1, 10, none⟩ = some (.int .i64 sb.f3.f1) ∧ w'.cell? ⟨w.heap.size + 1, 11, none⟩ = some (.slice Ab sb.f3.f2.length cb) ∧ w'.cell? ⟨w.heap.size + 1, 12, none⟩ = some (.int .i64 sb.f4) ∧ w'.cell? ⟨w.heap.size + 1, 13, none⟩ = some (.int .i64 sb.f5))
      (first | go_keep | (go_split_ands; refine ⟨?_, ?_, ?_, ?_, ?_, ?_, ?_, ?_, ?_, ?_, ?_, ?_, ?_, ?_, ?_, ?_, ?_, ?_, ?_, ?_, ?_, ?_, ?_, ?_, ?_, ?_, ?_, ?_, ?_, ?_⟩ <;> first | exact Below.drew (by assumption) | exact pw_cell_below hb (by assumption) | exact Below.trans (by assumption) (Below.mono hb (Below.size (by assumption))) | go_keep | assumption))
      (first | (go_at_call 16; refine (before_calls sa sb Aa Ab ca cb _).mono ?_; rintro e w' ⟨rfl, hb⟩) | (go_at_call 17; refine (refBefore_calls sa sb Aa Ab ca cb _).mono ?_; rintro e w' ⟨rfl, hb⟩) | (go_at_call 11; refine (alive_calls _).mono ?_; rintro e w' ⟨rfl, hb⟩))

    rename_i hS
    have HB3 : Aside0 (Below w.heap.size w w') := ⟨hS.1⟩
    have HD3 : Aside0 (Below w2.heap.size w2 w') := ⟨hS.2.1⟩
    clear hS
    go_wp2_with (go_at_call 10; refine (refRight_calls A c l _ (Kd.C_below HC.out HB3.out) hlc hl50).mono ?_; rintro e w4 ⟨rfl, hb⟩; rw [HO.out]; have HB4 := Aside0.mk (HB3.out.trans (hb.mono HB3.out.size)); clear hb)
    go_ret
    exact ⟨rfl, HB4.out⟩
  | true =>
    have HO := Aside0.mk ho
    have HAL := Aside0.mk (alone_same l hd ho)
    clear ho
    have hs1 : Aside0 (sp = spTo l hd l.length) := ⟨by rw [HSP.out, HO.out]; rfl⟩
    go_enter Try.func5, Try.ntmps5
    go_wp2_with (first
      | (go_at_call 7; refine (few_calls A l0.length c _ hc hm).mono ?_; rintro e w' ⟨rfl, rfl⟩; rw [HLEN.out])
      | (go_at_call 14; refine (alone_calls A c l hd _ (Kd.C_below HC.out HB0.out) (HE.out.below HB0.out) hl50).mono ?_; rintro e w1 ⟨rfl, hb⟩; rw [HO.out, HAL.out]; have HB1 := Aside0.mk (HB0.out.trans (hb.mono HB0.out.size)); have HD1 := Aside0.mk hb; clear hb)
      | (go_at_call 15; refine (open_calls A c l hd _ (Kd.C_below HC.out HB1.out) (HE.out.below HB1.out) hl50 sp HSP.out).mono ?_; rintro e w2 ⟨v, rfl, ho, hb⟩; rw [HO.out]; obtain ⟨B, d, rfl, hle, hr⟩ := ints_of ho; have HB2 := Aside0.mk (HB1.out.trans (hb.mono HB1.out.size)); have HI2 := Aside0.mk hr; have HL2 := Aside0.mk hle; have HD2 := Aside0.mk (HD1.out.trans (hb.mono HD1.out.size)); clear hb ho hr hle)
    )
    have bx := (blk_below (blk_alloc (blk_new w (.cells (spc sa Aa ca) 41)) (.cells (spc sb Ab cb) 41)) HD2.out)
    have by_ : w2.heap[w.heap.size + 1]? = some (.cells (spc sb Ab cb) 41 (0, 0)) := by
      have := blk_new (w.alloc (.cells (spc sa Aa ca) 41)) (.cells (spc sb Ab cb) 41)
      rw [World.size_alloc] at this
      exact blk_below this HD2.out
    obtain ⟨a0, a1, a2, a3, a4, a5, a6, a7, a8, a9, a10, a11, a12, a13⟩ := spc_cells bx
    obtain ⟨b0, b1, b2, b3, b4, b5, b6, b7, b8, b9, b10, b11, b12, b13⟩ := spc_cells by_
    have hB2 := HB2.out
    have hD2 := Below.refl w2.heap.size w2
    clear bx by_
    have T : (fun w' : World => Below w.heap.size w w' ∧ Below w2.heap.size w2 w' ∧ w'.cell? ⟨w.heap.size, 0, none⟩ = some (.int .i64 sa.f0) ∧ w'.cell? ⟨w.heap.size, 1, none⟩ = some (.int .i64 sa.f1) ∧ w'.cell? ⟨w.heap.size, 2, none⟩ = some (.int .i64 sa.f2.f0) ∧ w'.cell? ⟨w.heap.size, 3, none⟩ = some (.int .u64 sa.f2.f1) ∧ w'.cell? ⟨w.heap.size, 4, none⟩ = some (.int .i64 sa.f2.f2) ∧ w'.cell? ⟨w.heap.size, 5, none⟩ = some (.int .i64 sa.f2.f3) ∧ w'.cell? ⟨w.heap.size, 6, none⟩ = some (.int .i64 sa.f2.f4) ∧ w'.cell? ⟨w.heap.size, 7, none⟩ = some (.int .u64 sa.f2.f5.f0) ∧ w'.cell? ⟨w.heap.size, 8, none⟩ = some (.string sa.f2.f5.f1) ∧ w'.cell? ⟨w.heap.size, 9, none⟩ = some (.int .i64 sa.f3.f0) ∧ w'.cell? ⟨w.heap.size, 10, none⟩ = some (.int .i64 sa.f3.f1) ∧ w'.cell? ⟨w.heap.size, 11, none⟩ = some (.slice Aa sa.f3.f2.length ca) ∧ w'.cell? ⟨w.heap.size, 12, none⟩ = some (.int .i64 sa.f4) ∧ w'.cell? ⟨w.heap.size, 13, none⟩ = some (.int .i64 sa.f5) ∧ w'.cell? ⟨w.heap.size + 1, 0, none⟩ = some (.int .i64 sb.f0) ∧ w'.cell? ⟨w.heap.size + 1, 1, none⟩ = some (.int .i64 sb.f1) ∧ w'.cell? ⟨w.heap.size + 1, 2, none⟩ = some (.int .i64 sb.f2.f0) ∧ w'.cell? ⟨w.heap.size + 1, 3, none⟩ = some (.int .u64 sb.f2.f1) ∧ w'.cell? ⟨w.heap.size + 1, 4, none⟩ = some (.int .i64 sb.f2.f2) ∧ w'.cell? ⟨w.heap.size + 1, 5, none⟩ = some (.int .i64 sb.f2.f3) ∧ w'.cell? ⟨w.heap.size + 1, 6, none⟩ = some (.int .i64 sb.f2.f4) ∧ w'.cell? ⟨w.heap.size + 1, 7, none⟩ = some (.int .u64 sb.f2.f5.f0) ∧ w'.cell? ⟨w.heap.size + 1, 8, none⟩ = some (.string sb.f2.f5.f1) ∧ w'.cell? ⟨w.heap.size + 1, 9, none⟩ = some (.int .i64 sb.f3.f0) ∧ w'.cell? ⟨w.heap.size + 1, 10, none⟩ = some (.int .i64 sb.f3.f1) ∧ w'.cell? ⟨w.heap.size + 1, 11, none⟩ = some (.slice Ab sb.f3.f2.length cb) ∧ w'.cell? ⟨w.heap.size + 1, 12, none⟩ = some (.int .i64 sb.f4) ∧ w'.cell? ⟨w.heap.size + 1, 13, none⟩ = some (.int .i64 sb.f5)) w2.drew := by
      (go_split_ands; refine ⟨?_, ?_, ?_, ?_, ?_, ?_, ?_, ?_, ?_, ?_, ?_, ?_, ?_, ?_, ?_, ?_, ?_, ?_, ?_, ?_, ?_, ?_, ?_, ?_, ?_, ?_, ?_, ?_, ?_, ?_⟩ <;> first | exact Below.drew (by assumption) | exact pw_cell_below hb (by assumption) | exact Below.trans (by assumption) (Below.mono hb (Below.size (by assumption))) | go_keep | assumption)
    go_region_held3 (fun w' => Below w.heap.size w w' ∧ Below w2.heap.size w2 w' ∧ w'.cell? ⟨w.heap.size, 0, none⟩ = some (.int .i64 sa.f0) ∧ w'.cell? ⟨w.heap.size, 1, none⟩ = some (.int .i64 sa.f1) ∧ w'.cell? ⟨w.heap.size, 2, none⟩ = some (.int .i64 sa.f2.f0) ∧ w'.cell? ⟨w.heap.size, 3, none⟩ = some (.int .u64 sa.f2.f1) ∧ w'.cell? ⟨w.heap.size, 4, none⟩ = some (.int .i64 sa.f2.f2) ∧ w'.cell? ⟨w.heap.size, 5, none⟩ = some (.int .i64 sa.f2.f3) ∧ w'.cell? ⟨w.heap.size, 6, none⟩ = some (.int .i64 sa.f2.f4) ∧ w'.cell? ⟨w.heap.size, 7, none⟩ = some (.int .u64 sa.f2.f5.f0) ∧ w'.cell? ⟨w.heap.size, 8, none⟩ = some (.string sa.f2.f5.f1) ∧ w'.cell? ⟨w.heap.size, 9, none⟩ = some (.int .i64 sa.f3.f0) ∧ w'.cell? ⟨w.heap.size, 10, none⟩ = some (.int .i64 sa.f3.f1) ∧ w'.cell? ⟨w.heap.size, 11, none⟩ = some (.slice Aa sa.f3.f2.length ca) ∧ w'.cell? ⟨w.heap.size, 12, none⟩ = some (.int .i64 sa.f4) ∧ w'.cell? ⟨w.heap.size, 13, none⟩ = some (.int .i64 sa.f5) ∧ w'.cell? ⟨w.heap.size + 1, 0, none⟩ = some (.int .i64 sb.f0) ∧ w'.cell? ⟨w.heap.size + 1, 1, none⟩ = some (.int .i64 sb.f1) ∧ w'.cell? ⟨w.heap.size + 1, 2, none⟩ = some (.int .i64 sb.f2.f0) ∧ w'.cell? ⟨w.heap.size + 1, 3, none⟩ = some (.int .u64 sb.f2.f1) ∧ w'.cell? ⟨w.heap.size + 1, 4, none⟩ = some (.int .i64 sb.f2.f2) ∧ w'.cell? ⟨w.heap.size + 1, 5, none⟩ = some (.int .i64 sb.f2.f3) ∧ w'.cell? ⟨w.heap.size + 1, 6, none⟩ = some (.int .i64 sb.f2.f4) ∧ w'.cell? ⟨w.heap.size + 1, 7, none⟩ = some (.int .u64 sb.f2.f5.f0) ∧ w'.cell? ⟨w.heap.size + 1, 8, none⟩ = some (.string sb.f2.f5.f1) ∧ w'.cell? ⟨w.heap.size + 1, 9, none⟩ = some (.int .i64 sb.f3.f0) ∧ w'.cell? ⟨w.heap.size + 1, 10, none⟩ = some (.int .i64 sb.f3.f1) ∧ w'.cell? ⟨w.heap.size + 1, 11, none⟩ = some (.slice Ab sb.f3.f2.length cb) ∧ w'.cell? ⟨w.heap.size + 1, 12, none⟩ = some (.int .i64 sb.f4) ∧ w'.cell? ⟨w.heap.size + 1, 13, none⟩ = some (.int .i64 sb.f5))
      (first | go_keep | (go_split_ands; refine ⟨?_, ?_, ?_, ?_, ?_, ?_, ?_, ?_, ?_, ?_, ?_, ?_, ?_, ?_, ?_, ?_, ?_, ?_, ?_, ?_, ?_, ?_, ?_, ?_, ?_, ?_, ?_, ?_, ?_, ?_⟩ <;> first | exact Below.drew (by assumption) | exact pw_cell_below hb (by assumption) | exact Below.trans (by assumption) (Below.mono hb (Below.size (by assumption))) | go_keep | assumption))
      (first | (go_at_call 16; refine (before_calls sa sb Aa Ab ca cb _).mono ?_; rintro e w' ⟨rfl, hb⟩) | (go_at_call 17; refine (refBefore_calls sa sb Aa Ab ca cb _).mono ?_; rintro e w' ⟨rfl, hb⟩) | (go_at_call 11; refine (alive_calls _).mono ?_; rintro e w' ⟨rfl, hb⟩))

    rename_i hS
    have HB3 : Aside0 (Below w.heap.size w w') := ⟨hS.1⟩
    have HD3 : Aside0 (Below w2.heap.size w2 w') := ⟨hS.2.1⟩
    clear hS
    go_wp2_with (first
      | (go_at_call 10; refine (refRight_calls A c l _ (Kd.C_below HC.out HB3.out) hlc hl50).mono ?_; rintro e w4 ⟨rfl, hb⟩; rw [HO.out]; have HB4 := Aside0.mk (HB3.out.trans (hb.mono HB3.out.size)); have HD4 := Aside0.mk (HD3.out.trans (hb.mono HD3.out.size)); clear hb)
      | (go_at_call 18; refine (refAlone_calls A c l hd _ (HE.out.below HB4.out) hl50).mono ?_; rintro e w5 ⟨rfl, hb⟩; have HB5 := Aside0.mk (HB4.out.trans (hb.mono HB4.out.size)); have HD5 := Aside0.mk (HD4.out.trans (hb.mono HD4.out.size)); clear hb)
      | (go_at_call 20; refine (refOpen_calls A c l hd _ (HE.out.below HB5.out) hl50 sp hs1.out).mono ?_; rintro e w6 ⟨v6, rfl, ho, hb⟩; obtain ⟨B6, d6, rfl, hle, hr⟩ := ints_of ho; have HI6 := Aside0.mk hr; have HL6 := Aside0.mk hle; have HB6 := Aside0.mk (HB5.out.trans (hb.mono HB5.out.size)); have HD6 := Aside0.mk (HD5.out.trans (hb.mono HD5.out.size)); clear hb ho hr hle)
      | (go_at_call 19; refine (numbers_calls B B6 d d6 (openTo sp sp.length) _ (Kd.C_below HI2.out HD6.out) HL2.out HI6.out HL6.out).mono ?_; rintro e w7 ⟨rfl, hb⟩; have HB7 := Aside0.mk (HB6.out.trans (hb.mono HB6.out.size)); clear hb))
    go_ret
    exact ⟨rfl, HB7.out⟩
end Go.Proofs.Ytobfcppjmocgnaa.Own

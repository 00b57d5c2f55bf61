/-
  RippleSorts, walked by hand: for any drops it returns true.
-/
import Derived.Test.YtdkmmfhieapbaaaCalls
namespace Go.Proofs.Ytdkmmfhieapbaaa.Own
open Go.RowKit Go.Proofs.YtdkmmfhieapbaaaW.PrintWords Go.Proofs.YtdkmmfhieapbaaaW.PrintLast Go.Proofs.Ytdkmmfhieapbaaa.P Go.Proofs.Ytdkmmfhieapbaaa.Plain Go.Proofs.Ytdkmmfhieapbaaa.Pure
set_option linter.unusedVariables false

theorem s_one {p q : Prop} (h : p ∧ q) : p := h.1
theorem s_two {p q r : Prop} (h : p ∧ q ∧ r) : q := h.2.1
theorem neq_same (b : Bool) : (b != b) = false := by cases b <;> rfl
set_option maxRecDepth 100000 in
set_option maxHeartbeats 16000000 in
theorem sortsLaw_calls (a b : S24) (A : Option Addr) (c : Nat) (l0 : List S24) (many : Int) (w : World) (hC : Kd.C k24 w A l0.length l0) (hc : l0.length ≤ c) :
    Calls Try.prog 3 #[dr a, dr b, .slice A l0.length c, .int .i64 many] w fun e w' => e = .returned (.bool true) ∧ Below w.heap.size w w' := by
  have hm := hC.2.1
  obtain ⟨l, hl⟩ : ∃ l, l0.take (min l0.length 60) = l := ⟨_, rfl⟩
  have hlen : l.length = min l0.length 60 := by rw [← hl, List.length_take]; omega
  have hCl : Kd.C k24 w A l.length l := by rw [← hl]; exact Kd.C_take hC (by omega)
  have hl60 : l.length ≤ 60000 := by omega
  have hlc : l.length ≤ c := by omega
  have HC := Aside0.mk hCl
  have HLEN := Aside0.mk hlen.symm
  have HB0 : Aside0 (Below w.heap.size w ((w.alloc (dob a)).alloc (dob b))) := ⟨((Below.refl _ _).alloc (Nat.le_refl _) _).alloc (by simp) _⟩
  have HSL : Aside0 ((srt ltB l).length = l.length) := ⟨srt_length l⟩
  obtain ⟨bb, hbb⟩ : ∃ bb, ltB a b = bb := ⟨_, rfl⟩
  have HBB := Aside0.mk hbb
  have hnn : (bb != bb) = false := neq_same bb
  clear hC hCl hlen hl hbb
  by_cases hk : many < 0 ∨ (l.length : Int) < many
  · have HK := Aside0.mk hk
    go_enter Try.func3, Try.ntmps3
    go_wp2_with (first
      | (go_at_call 7; refine (few_at A l0.length c _ hc hm).mono ?_; rintro e w' ⟨rfl, rfl⟩; rw [HLEN.out])
      | (go_at_call 8; refine (first_no A c l many _ (Kd.C_below HC.out HB0.out) hlc hl60 HK.out).mono ?_; rintro e w1 ⟨B, d, rfl, hb⟩; have HB1 := Aside0.mk (HB0.out.trans (hb.mono HB0.out.size)); have HD1 := Aside0.mk hb; clear hb)
      | (go_at_call 9; refine (refSortedS_at A c l _ (Kd.C_below HC.out HB1.out) hlc hl60).mono ?_; rintro e w2 ⟨B2, d2, rfl, h1, h2, hb⟩; have HO2 := Aside0.mk h2; have HL2 := Aside0.mk h1; have HB2 := Aside0.mk (HB1.out.trans (hb.mono HB1.out.size)); have HD2 := Aside0.mk (HD1.out.trans (hb.mono HD1.out.size)); clear hb h1 h2))
    have bx := (blk_below (blk_alloc (blk_new w (dob a)) (dob b)) HD2.out)
    have by_ : w2.heap[w.heap.size + 1]? = some (dob b) := by
      have := blk_new (w.alloc (dob a)) (dob b)
      rw [World.size_alloc] at this
      exact blk_below this HD2.out
    have a0 := blk_cell bx 0
    have a1 := blk_cell bx 1
    have b0 := blk_cell by_ 0
    have b1 := blk_cell by_ 1
    have hB2 := HB2.out
    have hD2 := Below.refl w2.heap.size w2
    clear bx by_
    have T : (fun w' : World => Below w.heap.size w w' ∧ Below w2.heap.size w2 w' ∧ w'.cell? ⟨w.heap.size, 0, none⟩ = some (.int .i64 a.f0) ∧ w'.cell? ⟨w.heap.size, 1, none⟩ = some (.int .u64 a.f1) ∧ w'.cell? ⟨w.heap.size + 1, 0, none⟩ = some (.int .i64 b.f0) ∧ w'.cell? ⟨w.heap.size + 1, 1, none⟩ = some (.int .u64 b.f1)) w2.drew := by
      (go_split_ands; refine ⟨?_, ?_, ?_, ?_, ?_, ?_⟩ <;> first | exact Below.drew (by assumption) | exact pw_cell_below hb (by assumption) | exact Below.trans (by assumption) (Below.mono hb (Below.size (by assumption))) | go_keep | assumption)
    go_region_held3 (fun w' => Below w.heap.size w w' ∧ Below w2.heap.size w2 w' ∧ w'.cell? ⟨w.heap.size, 0, none⟩ = some (.int .i64 a.f0) ∧ w'.cell? ⟨w.heap.size, 1, none⟩ = some (.int .u64 a.f1) ∧ w'.cell? ⟨w.heap.size + 1, 0, none⟩ = some (.int .i64 b.f0) ∧ w'.cell? ⟨w.heap.size + 1, 1, none⟩ = some (.int .u64 b.f1))
      (first | go_keep | (go_split_ands; refine ⟨?_, ?_, ?_, ?_, ?_, ?_⟩ <;> first | exact Below.drew (by assumption) | exact pw_cell_below hb (by assumption) | exact Below.trans (by assumption) (Below.mono hb (Below.size (by assumption))) | go_keep | assumption))
      (first
        | (go_at_call 10; refine (before_calls a b _).mono ?_; rintro e w' ⟨rfl, hb⟩; rw [HBB.out])
        | (go_at_call 11; refine (refBefore_at a b _).mono ?_; rintro e w' ⟨rfl, hb⟩; rw [HBB.out])
        | (go_at_call 13; refine (sortedS_at A c l _ (Kd.C_below HC.out (by exact s_one (by assumption))) hlc hl60).mono ?_; rintro e w' ⟨B3, d3, rfl, h1, h2, hb⟩; have HO3 := Aside0.mk h2; have HL3 := Aside0.mk h1; clear h1 h2)
        | (go_at_call 12; refine (sameN_at B3 B2 d3 d2 _ (srt ltB l) _ HO3.out HL3.out (Kd.C_below HO2.out (by exact s_two (by assumption))) HL2.out hl60).mono ?_; rintro e w' ⟨rfl, hb⟩)
        | (go_at_call 14; refine (alive_at _).mono ?_; rintro e w' ⟨rfl, hb⟩))
    rename_i hS
    have HB3 : Aside0 (Below w.heap.size w w') := ⟨hS.1⟩
    have HD3 : Aside0 (Below w2.heap.size w2 w') := ⟨hS.2.1⟩
    clear hS
    by_cases hneg : many < 0
    · have d1 : decide (many < 0) = true := decide_eq_true hneg
      clear hneg hk
      go_wp2
      go_ret
      exact ⟨rfl, HB3.out⟩
    · have d1 : decide (many < 0) = false := decide_eq_false hneg
      have d2 : decide ((l.length : Int) < many) = true := decide_eq_true (by omega)
      clear hneg hk
      go_wp2
      go_ret
      exact ⟨rfl, HB3.out⟩
  · obtain ⟨k, rfl⟩ : ∃ k : Nat, many = k := ⟨many.toNat, by omega⟩
    have hkl : k ≤ l.length := by omega
    have d1 : decide ((k : Int) < 0) = false := decide_eq_false (by omega)
    have d2 : decide (l.length < k) = false := decide_eq_false (by omega)
    clear hk
    go_enter Try.func3, Try.ntmps3
    go_wp2_with (first
      | (go_at_call 7; refine (few_at A l0.length c _ hc hm).mono ?_; rintro e w' ⟨rfl, rfl⟩; rw [HLEN.out])
      | (go_at_call 8; refine (first_at A c l k _ (Kd.C_below HC.out HB0.out) hlc hl60 hkl).mono ?_; rintro e w1 ⟨B, d, rfl, h1, h2, hb⟩; have HO1 := Aside0.mk h2; have HL1 := Aside0.mk h1; have HB1 := Aside0.mk (HB0.out.trans (hb.mono HB0.out.size)); have HD1 := Aside0.mk hb; have HE1 := Aside0.mk (Below.refl w1.heap.size w1); clear hb h1 h2)
      | (go_at_call 9; refine (refSortedS_at A c l _ (Kd.C_below HC.out HB1.out) hlc hl60).mono ?_; rintro e w2 ⟨B2, d2', rfl, h1, h2, hb⟩; have HO2 := Aside0.mk h2; have HL2 := Aside0.mk h1; have HB2 := Aside0.mk (HB1.out.trans (hb.mono HB1.out.size)); have HD2 := Aside0.mk (HD1.out.trans (hb.mono HD1.out.size)); have HE2 := Aside0.mk (HE1.out.trans (hb.mono HE1.out.size)); clear hb h1 h2))
    have bx := (blk_below (blk_alloc (blk_new w (dob a)) (dob b)) HD2.out)
    have by_ : w2.heap[w.heap.size + 1]? = some (dob b) := by
      have := blk_new (w.alloc (dob a)) (dob b)
      rw [World.size_alloc] at this
      exact blk_below this HD2.out
    have a0 := blk_cell bx 0
    have a1 := blk_cell bx 1
    have b0 := blk_cell by_ 0
    have b1 := blk_cell by_ 1
    have hB2 := HB2.out
    have hD2 := Below.refl w2.heap.size w2
    clear bx by_
    have T : (fun w' : World => Below w.heap.size w w' ∧ Below w2.heap.size w2 w' ∧ w'.cell? ⟨w.heap.size, 0, none⟩ = some (.int .i64 a.f0) ∧ w'.cell? ⟨w.heap.size, 1, none⟩ = some (.int .u64 a.f1) ∧ w'.cell? ⟨w.heap.size + 1, 0, none⟩ = some (.int .i64 b.f0) ∧ w'.cell? ⟨w.heap.size + 1, 1, none⟩ = some (.int .u64 b.f1)) w2.drew := by
      (go_split_ands; refine ⟨?_, ?_, ?_, ?_, ?_, ?_⟩ <;> first | exact Below.drew (by assumption) | exact pw_cell_below hb (by assumption) | exact Below.trans (by assumption) (Below.mono hb (Below.size (by assumption))) | go_keep | assumption)
    go_region_held3 (fun w' => Below w.heap.size w w' ∧ Below w2.heap.size w2 w' ∧ w'.cell? ⟨w.heap.size, 0, none⟩ = some (.int .i64 a.f0) ∧ w'.cell? ⟨w.heap.size, 1, none⟩ = some (.int .u64 a.f1) ∧ w'.cell? ⟨w.heap.size + 1, 0, none⟩ = some (.int .i64 b.f0) ∧ w'.cell? ⟨w.heap.size + 1, 1, none⟩ = some (.int .u64 b.f1))
      (first | go_keep | (go_split_ands; refine ⟨?_, ?_, ?_, ?_, ?_, ?_⟩ <;> first | exact Below.drew (by assumption) | exact pw_cell_below hb (by assumption) | exact Below.trans (by assumption) (Below.mono hb (Below.size (by assumption))) | go_keep | assumption))
      (first
        | (go_at_call 10; refine (before_calls a b _).mono ?_; rintro e w' ⟨rfl, hb⟩; rw [HBB.out])
        | (go_at_call 11; refine (refBefore_at a b _).mono ?_; rintro e w' ⟨rfl, hb⟩; rw [HBB.out])
        | (go_at_call 13; refine (sortedS_at A c l _ (Kd.C_below HC.out (by exact s_one (by assumption))) hlc hl60).mono ?_; rintro e w' ⟨B3, d3, rfl, h1, h2, hb⟩; have HO3 := Aside0.mk h2; have HL3 := Aside0.mk h1; clear h1 h2)
        | (go_at_call 12; refine (sameN_at B3 B2 d3 d2' _ (srt ltB l) _ HO3.out HL3.out (Kd.C_below HO2.out (by exact s_two (by assumption))) HL2.out hl60).mono ?_; rintro e w' ⟨rfl, hb⟩)
        | (go_at_call 14; refine (alive_at _).mono ?_; rintro e w' ⟨rfl, hb⟩))
    rename_i hS
    have HB3 : Aside0 (Below w.heap.size w w') := ⟨hS.1⟩
    have HD3 : Aside0 (Below w2.heap.size w2 w') := ⟨hS.2.1⟩
    clear hS
    obtain ⟨i0, hi0, _, _, _⟩ := info_parts info24
    have hcut := cut_to (P := Try.prog) 25 24 .i64 Try.underlying25 hi0 B2 l.length d2' (k : Int) (by omega) (by omega) HL2.out
    rw [Int.toNat_natCast] at hcut
    have HT : Aside0 (Kd.C k24 w2 B2 k ((srt ltB l).take k)) := ⟨by
      have h1 := HO2.out
      have h2 : l.length = (srt ltB l).length := HSL.out.symm
      rw [h2] at h1
      have h3 := Kd.C_take (m := k) h1 (by rw [HSL.out]; exact hkl)
      have e2 : ((srt ltB l).take k).length = k := by rw [List.length_take, HSL.out]; omega
      rw [e2] at h3
      exact h3⟩
    clear hi0
    go_wp2_with (go_at_call 12; refine (sameN_at B B2 d d2' k ((srt ltB l).take k) _ (Kd.C_below HO1.out (HE2.out.trans (HD3.out.mono HE2.out.size))) HL1.out (Kd.C_below HT.out HD3.out) (Nat.le_trans hkl HL2.out) (Nat.le_trans hkl hl60)).mono ?_; rintro e w4 ⟨rfl, hb⟩; have HB4 := Aside0.mk (HB3.out.trans (hb.mono HB3.out.size)); clear hb)
    go_ret
    exact ⟨rfl, HB4.out⟩
end Go.Proofs.Ytdkmmfhieapbaaa.Own

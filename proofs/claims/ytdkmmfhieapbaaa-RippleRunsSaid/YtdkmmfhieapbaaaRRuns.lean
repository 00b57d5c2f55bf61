/-
  RippleRuns, walked by hand: for any deeds it returns true.
-/
import Derived.Test.YtdkmmfhieapbaaaRefRun
namespace Go.Proofs.Ytdkmmfhieapbaaa.Own
open Go.RowKit Go.Proofs.YtdkmmfhieapbaaaW.PrintWords Go.Proofs.YtdkmmfhieapbaaaW.PrintLast Go.Proofs.Ytdkmmfhieapbaaa.P Go.Proofs.Ytdkmmfhieapbaaa.Plain Go.Proofs.Ytdkmmfhieapbaaa.Pure
set_option linter.unusedVariables false

theorem row_C {w : World} {base : Nat} {v : Value} {xs : List S24} (h : Row w base v xs) : ∃ A c, v = .slice A xs.length c ∧ xs.length ≤ c ∧ Kd.C k24 w A xs.length xs := Kd.R_reads (row_R h (fun _ => True) (fun _ _ => trivial))
set_option maxRecDepth 100000 in
set_option maxHeartbeats 8000000 in
theorem runsLaw_calls (A : Option Addr) (c : Nat) (l0 : List S43) (w : World) (hC : Kd.C k43 w A l0.length l0) (hc : l0.length ≤ c) :
    Calls Try.prog 5 #[.slice A l0.length c] w fun e w' => e = .returned (.bool true) ∧ Below w.heap.size w w' := by
  have hm := hC.2.1
  obtain ⟨l, hl⟩ : ∃ l, l0.take (min l0.length 80) = l := ⟨_, rfl⟩
  have hlen : l.length = min l0.length 80 := by rw [← hl, List.length_take]; omega
  have hCl : Kd.C k43 w A l.length l := by rw [← hl]; exact Kd.C_take hC (by omega)
  obtain ⟨i0, hi, _, _, _⟩ := info_parts info43
  have hcut := cut_to (P := Try.prog) 35 43 .i64 Try.underlying35 hi A l0.length c ((min l0.length 80 : Nat) : Int) (by omega) (by omega) hc
  rw [Int.toNat_natCast, ← hlen] at hcut
  have hl80 : l.length ≤ 80 := by omega
  have hmin : (if (80 : Int) < (l0.length : Int) then 80 else (l0.length : Int)) = (l.length : Int) := by split <;> omega
  have HC := Aside0.mk hCl
  have hrl := runL_len l
  have HRL := Aside0.mk hrl
  clear hC hCl hl hlen hi hrl
  go_enter Try.func5, Try.ntmps5
  obtain ⟨T, hT⟩ : ∃ T, (runL l).1 = T := ⟨_, rfl⟩
  obtain ⟨L, hL⟩ : ∃ L, (runL l).2.1 = L := ⟨_, rfl⟩
  obtain ⟨V, hV⟩ : ∃ V, (runL l).2.2 = V := ⟨_, rfl⟩
  have HT := Aside0.mk hT
  have HL := Aside0.mk hL
  have HV := Aside0.mk hV
  have hTl : T.length ≤ 60000 := by rw [← hT]; have := HRL.out.1; omega
  have hLl : L.length ≤ 60000 := by rw [← hL]; have := HRL.out.1; omega
  clear hT hL hV
  go_wp2_with (first
    | (go_at_call 15; refine (run_calls A c l _ HC.out (by omega)).mono ?_; rintro e w1 ⟨v1, v2, rfl, h1, h2, h3, hb⟩; rw [HT.out] at h1; rw [HL.out] at h2; rw [HV.out]; obtain ⟨A1, c1, rfl, k1, r1⟩ := row_C h1; obtain ⟨A2, c2, rfl, k2, r2⟩ := row_C h2; have HA1 := Aside0.mk r1; have HK1 := Aside0.mk k1; have HA2 := Aside0.mk r2; have HK2 := Aside0.mk k2; have HB1 := Aside0.mk hb; have HD1 := Aside0.mk (Below.refl w1.heap.size w1); clear h1 h2 h3 k1 k2 r1 r2 hb)
    | (go_at_call 16; refine (refRun_calls A c l _ (Kd.C_below HC.out HB1.out) (by omega)).mono ?_; rintro e w2 ⟨v3, B4, c4, rfl, h1, h2, h3, hb⟩; rw [HT.out] at h1; rw [HL.out] at h2 h3 ⊢; rw [HV.out]; obtain ⟨A3, c3, rfl, k1, r1⟩ := row_C h1; have HA3 := Aside0.mk r1; have HK3 := Aside0.mk k1; have HA4 := Aside0.mk h2; have HK4 := Aside0.mk h3; have HB2 := Aside0.mk (HB1.out.trans (hb.mono HB1.out.size)); have HD2 := Aside0.mk (HD1.out.trans (hb.mono HD1.out.size)); have HE2 : Aside0 (Below w2.heap.size w2 (w2.alloc (.cells #[.slice A3 T.length c3, .slice B4 L.length c4, .int .i64 V] 39))) := ⟨(Below.refl _ _).alloc (Nat.le_refl _) _⟩; have HG := Aside0.mk (heap_alloc_new w2 (.cells #[.slice A3 T.length c3, .slice B4 L.length c4, .int .i64 V] 39)); clear h1 h2 h3 k1 r1 hb)
    | (go_at_call 14; refine (alive_at _).mono ?_; rintro e w3 ⟨rfl, hb⟩; have HE3 := Aside0.mk (HE2.out.trans (hb.mono HE2.out.size)); have hg := blk_below HG.out hb; have g0 := blk_cell hg 0; have g1 := blk_cell hg 1; have g2 := blk_cell hg 2; have gl := blk_lt hg; have HG3 := Aside0.mk hg; clear hb hg)
    | (go_at_call 12; refine hold ?_))
  refine ⟨?_⟩
  refine (sameN_at A1 A3 c1 c3 _ T _ (Kd.C_below HA1.out (HD2.out.trans (HE3.out.mono HD2.out.size))) HK1.out (Kd.C_below HA3.out HE3.out) HK3.out hTl).mono ?_
  rintro e w4 ⟨rfl, hb⟩
  have HE4 := Aside0.mk (HE3.out.trans (hb.mono HE3.out.size))
  have hg := blk_below HG3.out hb
  clear g0 g1 g2 gl
  have g0 := blk_cell hg 0
  have g1 := blk_cell hg 1
  have g2 := blk_cell hg 2
  have gl := blk_lt hg
  have HG4 := Aside0.mk hg
  clear hb hg
  go_wp2_with (go_at_call 12; refine (sameN_at A2 B4 c2 c4 _ L _ (Kd.C_below HA2.out (HD2.out.trans (HE4.out.mono HD2.out.size))) HK2.out (Kd.C_below HA4.out HE4.out) HK4.out hLl).mono ?_; rintro e w5 ⟨rfl, hb⟩; have HE5 := Aside0.mk (HE4.out.trans (hb.mono HE4.out.size)); have hg := blk_below HG4.out hb; clear g0 g1 g2 gl; have g0 := blk_cell hg 0; have g1 := blk_cell hg 1; have g2 := blk_cell hg 2; have gl := blk_lt hg; clear hb hg)
  go_ret
  exact ⟨by simp, HB2.out.trans (HE5.out.mono HB2.out.size)⟩
end Go.Proofs.Ytdkmmfhieapbaaa.Own

/-
  HistorySpans, walked by hand: for every history it returns true.
-/
import Derived.Test.YtobfcppjmocgnaaPureRight
namespace Go.Proofs.Ytobfcppjmocgnaa.Own
open Go.RowKit Go.Shelf Go.Proofs.YtobfcppjmocgnaaW.PrintWords Go.Proofs.YtobfcppjmocgnaaW.PrintLast Go.Proofs.Ytobfcppjmocgnaa.P
set_option linter.unusedVariables false

theorem refRight_calls (A : Option Addr) (c : Nat) (l : List S53) (w : World) (hC : Kd.C k53 w A l.length l) (hc : l.length ≤ c) (hl : l.length ≤ 50) :
    Calls Try.prog 10 #[.slice A l.length c] w fun e w' => e = .returned (.bool (okH l)) ∧ Below w.heap.size w w' := downpourref22_Right.calls 200 A c l (okH l) w hC hc (refRight_f l hl)
theorem refSpans_told (A : Option Addr) (c : Nat) (l : List S53) (hd : Nat → Option Addr × Nat) (w : World) (hE : Evs w A l hd) (hl : l.length ≤ 50) :
    Calls Try.prog 13 #[.slice A l.length c] w fun e w' => ∃ B d, e = .returned (.slice B (spTo l hd l.length).length d) ∧ Sps w' B (spTo l hd l.length) ∧ Below w.heap.size w w' := by
  refine (refSpans_calls A c l hd w hE hl).mono ?_
  rintro e w' ⟨v, rfl, ho, hb⟩
  obtain ⟨B, d, rfl, hs⟩ := sps_of ho ((inner_of hE _).below hb)
  exact ⟨B, d, rfl, hs, hb⟩

set_option maxRecDepth 100000 in
set_option maxHeartbeats 8000000 in
theorem spansLaw_calls (A : Option Addr) (c : Nat) (l0 : List S53) (w : World) (hC : Kd.C k53 w A l0.length l0) (hc : l0.length ≤ c) :
    Calls Try.prog 3 #[.slice A l0.length c] w fun e w' => e = .returned (.bool true) ∧ Below w.heap.size w w' := by
  have hm := hC.2.1
  obtain ⟨l, hl⟩ : ∃ l, l0.take (min l0.length 50) = l := ⟨_, rfl⟩
  have hlen : l.length = min l0.length 50 := by rw [← hl, List.length_take]; omega
  have hCl : Kd.C k53 w A l.length l := by rw [← hl]; exact Kd.C_take hC (by omega)
  have hl50 : l.length ≤ 50 := by omega
  have hlc : l.length ≤ c := by omega
  obtain ⟨hd, hE⟩ := evs_of hCl
  have HC := Aside0.mk hCl
  have HE := Aside0.mk hE
  have HLEN := Aside0.mk hlen.symm
  obtain ⟨sp, hsp⟩ : ∃ sp, sp = if okH l then spTo l hd l.length else [] := ⟨_, rfl⟩
  have HSP := Aside0.mk hsp
  clear hC hCl hE hlen hl hsp
  cases ho : okH l with
  | false =>
    have HO := Aside0.mk ho
    clear ho
    have hs0 : Aside0 (sp.length = 0) := ⟨by rw [HSP.out, HO.out]; rfl⟩
    go_enter Try.func3, Try.ntmps3
    go_wp2_with (first
      | (go_at_call 7; refine (few_calls A l0.length c _ hc hm).mono ?_; rintro e w' ⟨rfl, rfl⟩; rw [HLEN.out])
      | (go_at_call 8; refine (spans_told A c l hd _ HC.out HE.out hl50 sp HSP.out).mono ?_; rintro e w1 ⟨B, d, rfl, hs, hb1⟩; rw [HO.out, hs0.out]; have HB1 := Aside0.mk hb1; have HD1 := Aside0.mk (Below.refl w1.heap.size w1); have HS1 := Aside0.mk hs; clear hb1 hs)
      | (go_at_call 9; refine (right_calls A c l _ (Kd.C_below HC.out HB1.out) hl50).mono ?_; rintro e w2 ⟨rfl, hb⟩; rw [HO.out]; have HB2 := Aside0.mk (HB1.out.trans (hb.mono HB1.out.size)); have HD2 := Aside0.mk (HD1.out.trans (hb.mono HD1.out.size)); clear hb)
      | (go_at_call 10; refine (refRight_calls A c l _ (Kd.C_below HC.out HB4.out) hlc hl50).mono ?_; rintro e w5 ⟨rfl, hb⟩; rw [HO.out]; have HB5 := Aside0.mk (HB4.out.trans (hb.mono HB4.out.size)); have HD5 := Aside0.mk (HD4.out.trans (hb.mono HD4.out.size)); clear hb)
      | (go_at_call 10; refine (refRight_calls A c l _ (Kd.C_below HC.out HB2.out) hlc hl50).mono ?_; rintro e w3 ⟨rfl, hb⟩; rw [HO.out]; have HB3 := Aside0.mk (HB2.out.trans (hb.mono HB2.out.size)); have HD3 := Aside0.mk (HD2.out.trans (hb.mono HD2.out.size)); clear hb)
      | (go_at_call 11; refine (alive_calls _).mono ?_; rintro e w4 ⟨rfl, hb⟩; have HB4 := Aside0.mk (HB3.out.trans (hb.mono HB3.out.size)); have HD4 := Aside0.mk (HD3.out.trans (hb.mono HD3.out.size)); clear hb))
    go_ret
    exact ⟨rfl, HB5.out⟩
  | true =>
    have HO := Aside0.mk ho
    clear ho
    have hs0 : Aside0 (sp.length = (spTo l hd l.length).length) := ⟨by rw [HSP.out, HO.out]; rfl⟩
    have hs1 : Aside0 (sp = spTo l hd l.length) := ⟨by rw [HSP.out, HO.out]; rfl⟩
    have hs2 : Aside0 ((spTo l hd l.length).length ≤ 50) := ⟨Nat.le_trans (spTo_length _ _ _) hl50⟩
    go_enter Try.func3, Try.ntmps3
    go_wp2_with (first
      | (go_at_call 7; refine (few_calls A l0.length c _ hc hm).mono ?_; rintro e w' ⟨rfl, rfl⟩; rw [HLEN.out])
      | (go_at_call 8; refine (spans_told A c l hd _ HC.out HE.out hl50 sp HSP.out).mono ?_; rintro e w1 ⟨B, d, rfl, hs, hb1⟩; rw [HO.out, hs0.out]; have HB1 := Aside0.mk hb1; have HD1 := Aside0.mk (Below.refl w1.heap.size w1); have HS1 := Aside0.mk hs; clear hb1 hs)
      | (go_at_call 9; refine (right_calls A c l _ (Kd.C_below HC.out HB1.out) hl50).mono ?_; rintro e w2 ⟨rfl, hb⟩; rw [HO.out]; have HB2 := Aside0.mk (HB1.out.trans (hb.mono HB1.out.size)); have HD2 := Aside0.mk (HD1.out.trans (hb.mono HD1.out.size)); clear hb)
      | (go_at_call 10; refine (refRight_calls A c l _ (Kd.C_below HC.out HB4.out) hlc hl50).mono ?_; rintro e w5 ⟨rfl, hb⟩; rw [HO.out]; have HB5 := Aside0.mk (HB4.out.trans (hb.mono HB4.out.size)); have HD5 := Aside0.mk (HD4.out.trans (hb.mono HD4.out.size)); clear hb)
      | (go_at_call 10; refine (refRight_calls A c l _ (Kd.C_below HC.out HB2.out) hlc hl50).mono ?_; rintro e w3 ⟨rfl, hb⟩; rw [HO.out]; have HB3 := Aside0.mk (HB2.out.trans (hb.mono HB2.out.size)); have HD3 := Aside0.mk (HD2.out.trans (hb.mono HD2.out.size)); clear hb)
      | (go_at_call 11; refine (alive_calls _).mono ?_; rintro e w4 ⟨rfl, hb⟩; have HB4 := Aside0.mk (HB3.out.trans (hb.mono HB3.out.size)); have HD4 := Aside0.mk (HD3.out.trans (hb.mono HD3.out.size)); clear hb)
      | (go_at_call 13; refine (refSpans_told A c l hd _ (HE.out.below HB5.out) hl50).mono ?_; rintro e w6 ⟨B6, d6, rfl, hs, hb⟩; have HS6 := Aside0.mk hs; have HB6 := Aside0.mk (HB5.out.trans (hb.mono HB5.out.size)); have HD6 := Aside0.mk (HD5.out.trans (hb.mono HD5.out.size)); clear hb hs)
      | (go_at_call 12; refine (same_calls B B6 d d6 (spTo l hd l.length) (spTo l hd l.length) rfl hs2.out _ ((hs1.out ▸ HS1.out).below HD6.out) HS6.out).mono ?_; rintro e w7 ⟨rfl, hb⟩; have HB7 := Aside0.mk (HB6.out.trans (hb.mono HB6.out.size)); have HD7 := Aside0.mk (HD6.out.trans (hb.mono HD6.out.size)); clear hb))
    go_ret
    exact ⟨rfl, HB7.out⟩
end Go.Proofs.Ytobfcppjmocgnaa.Own

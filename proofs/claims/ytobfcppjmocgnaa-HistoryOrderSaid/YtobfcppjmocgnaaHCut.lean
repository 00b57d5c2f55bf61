/-
  HistoryCut, walked by hand: for every history and every number it returns true.
-/
import Derived.Test.YtobfcppjmocgnaaPureCut
import Derived.Test.YtobfcppjmocgnaaHSpans
import Derived.Test.YtobfcppjmocgnaaSame
namespace Go.Proofs.Ytobfcppjmocgnaa.Own
open Go.RowKit Go.Shelf Go.Proofs.YtobfcppjmocgnaaW.PrintWords Go.Proofs.YtobfcppjmocgnaaW.PrintLast Go.Proofs.Ytobfcppjmocgnaa.P
set_option linter.unusedVariables false
attribute [local go_sem high] eqC36

theorem few_calls' (A : Option Addr) (n c : Nat) (w : World) (hn : n ≤ c) (hm : n ≤ 9223372036854775807) :
    Calls Try.prog 7 #[.slice A n c] w fun e w' => e = .returned (.slice A (min n 50) c) ∧ w = w' := (few_calls A n c w hn hm).mono fun _ _ h => ⟨h.1, h.2.symm⟩
set_option maxRecDepth 100000 in
set_option maxHeartbeats 16000000 in
theorem cutLaw_calls (A : Option Addr) (c : Nat) (l0 : List S53) (k0 : Int) (w : World) (hC : Kd.C k53 w A l0.length l0) (hc : l0.length ≤ c) (hk0 : (Lit.int .i64 k0).wf = true) :
    Calls Try.prog 4 #[.slice A l0.length c, .int .i64 k0] w fun e w' => e = .returned (.bool true) ∧ Below w.heap.size w w' := by
  have hm := hC.2.1
  obtain ⟨l, hl⟩ : ∃ l, l0.take (min l0.length 50) = l := ⟨_, rfl⟩
  have hlen : l.length = min l0.length 50 := by rw [← hl, List.length_take]; omega
  have hCl : Kd.C k53 w A l.length l := by rw [← hl]; exact Kd.C_take hC (by omega)
  have hl50 : l.length ≤ 50 := by omega
  have hlc : l.length ≤ c := by omega
  obtain ⟨hd, hE⟩ := evs_of hCl
  have HC := Aside0.mk hCl
  have HE := Aside0.mk hE
  have HLEN := Aside0.mk hlen.symm
  obtain ⟨sp, hsp⟩ : ∃ sp, sp = if okH l then spTo l hd l.length else [] := ⟨_, rfl⟩
  have HSP := Aside0.mk hsp
  obtain ⟨t, ht⟩ : ∃ t, Int.tmod k0 ((l.length : Int) + 1) = t := ⟨_, rfl⟩
  have t1 : -51 < t := by
    rw [← ht]
    have := Int.tmod_lt_of_pos (-k0) (show (0 : Int) < (l.length : Int) + 1 by omega)
    rw [Int.neg_tmod] at this
    omega
  have t3 : 0 ≤ t + (l.length : Int) + 1 := by
    have := Int.tmod_lt_of_pos (-k0) (show (0 : Int) < (l.length : Int) + 1 by omega)
    rw [Int.neg_tmod, ht] at this
    omega
  have t2 : t < 51 := by
    rw [← ht]
    have := Int.tmod_lt_of_pos k0 (show (0 : Int) < (l.length : Int) + 1 by omega)
    omega
  obtain ⟨k, hk⟩ := Int.eq_ofNat_of_zero_le (Int.emod_nonneg (t + (l.length : Int) + 1) (show ((l.length : Int) + 1) ≠ 0 by omega))
  have hkn : k ≤ l.length := by
    have := Int.emod_lt_of_pos (t + (l.length : Int) + 1) (show (0 : Int) < (l.length : Int) + 1 by omega)
    omega
  have hk2 : Int.tmod (t + (l.length : Int) + 1) ((l.length : Int) + 1) = (k : Int) := by rw [Int.tmod_eq_emod_of_nonneg t3]; exact hk
  have hz : ((l.length : Int) + 1 == 0) = false := by simp; omega
  clear hC hCl hE hlen hl hsp
  go_enter Try.func4, Try.ntmps4
  go_upto_region 3 with (first
      | (go_at_call 7; refine (few_calls' A l0.length c _ hc hm).mono ?_; rintro e w' ⟨rfl, rfl⟩; rw [HLEN.out])
      | (go_at_call 8; refine (spans_told A c l hd _ HC.out HE.out hl50 sp HSP.out).mono ?_; rintro e w1 ⟨B, d, rfl, hs, hb1⟩; have HB1 := Aside0.mk hb1; have HD1 := Aside0.mk (Below.refl w1.heap.size w1); have HS1 := Aside0.mk hs; clear hb1 hs))
  go_upto_region 4 with (fail)
  clear ht hk hk2 hz t1 t2 t3
  obtain ⟨p, hp⟩ : ∃ p, l.take k = p := ⟨_, rfl⟩
  have hpl : p.length = k := by rw [← hp, List.length_take]; omega
  have hpC : Kd.C k53 w A p.length p := by rw [← hp]; exact Kd.C_take HC.out hkn
  have hpE : Evs w A p hd := by rw [← hp]; exact HE.out.cut k
  obtain ⟨sm, hsm⟩ : ∃ sm, sm = if okH p then spTo p hd p.length else [] := ⟨_, rfl⟩
  have hcalls2 : ∀ W, Below w.heap.size w W → Calls Try.prog 8 #[.slice A k c] W (fun e w' => ∃ B d, e = .returned (.tuple #[.slice B sm.length d, .int .i64 (if okH p then 0 else 1)]) ∧ Sps w' B sm ∧ Below W.heap.size W w') := fun W hW => by
    rw [← hpl]
    exact spans_told A c p hd W (Kd.C_below hpC hW) (hpE.below hW) (by omega) sm hsm
  have HC2 := Aside0.mk hcalls2
  obtain ⟨i0, hi, _, hz1, _⟩ := info_parts info53
  have hcut := cut_to (P := Try.prog) 22 53 .i64 Try.underlying22 hi A l.length c (k : Int) (by omega) (by omega) hlc
  cases ho : okH l with
  | false =>
    have hs0 : sp.length = 0 := by rw [HSP.out, ho]; rfl
    rw [hs0]
    clear hs0 ho hsm hpC hpE hcalls2 hp hpl
    go_wp2_with (first
      | (go_at_call 8; refine (HC2.out _ HB1.out).mono ?_; rintro e w2 ⟨B2, d2, rfl, hs, hb⟩; have HB2 := Aside0.mk (HB1.out.trans (hb.mono HB1.out.size)); clear hb hs)
      | (go_at_call 11; refine (alive_calls _).mono ?_; rintro e w3 ⟨rfl, hb⟩; have HB3 := Aside0.mk (HB2.out.trans (hb.mono HB2.out.size)); clear hb))
    all_goals
      go_ret
      exact ⟨rfl, HB3.out⟩
  | true =>
    have hop : okH p = true := by rw [← hp]; exact okH_take l k hkn ho
    have hsp1 : sp = spTo l hd l.length := by rw [HSP.out, ho]; rfl
    have hsm1 : sm = spTo (l.take k) hd k := by rw [hsm, hop, hpl, hp]; rfl
    have htold := cut_told l hd k hkn
    rw [← hsp1, ← hsm1] at htold
    have HT := Aside0.mk htold
    have hle : sm.length ≤ sp.length := htold.1
    have hs50 : sp.length ≤ 50 := by rw [hsp1]; exact Nat.le_trans (spTo_length _ _ _) hl50
    rw [hop] at HC2
    have hgt : decide ((sp.length : Int) < (sm.length : Int)) = false := decide_eq_false (by omega)
    clear ho hsm hpC hpE hcalls2 hp hpl hop hsp1 hsm1 htold
    go_wp2_with (first
      | (go_at_call 8; refine (HC2.out _ HB1.out).mono ?_; rintro e w2 ⟨B2, d2, rfl, hs, hb⟩; have HB2 := Aside0.mk (HB1.out.trans (hb.mono HB1.out.size)); have HD2 := Aside0.mk (HD1.out.trans (hb.mono HD1.out.size)); have HS2 := Aside0.mk hs; have HF2 := Aside0.mk (Below.refl w2.heap.size w2); clear hb hs)
      | (go_at_call 11; refine (alive_calls _).mono ?_; rintro e w3 ⟨rfl, hb⟩; have HB3 := Aside0.mk (HB2.out.trans (hb.mono HB2.out.size)); have HD3 := Aside0.mk (HD2.out.trans (hb.mono HD2.out.size)); have HF3 := Aside0.mk (HF2.out.trans (hb.mono HF2.out.size)); clear hb))
    go_loopw [62] (fun v62 W => ∃ i : Nat, i ≤ sm.length ∧ v62 = .int .i64 i ∧ Aside0 (Below w.heap.size w W) ∧ Aside0 (Below w1.heap.size w1 W) ∧ Aside0 (Below w2.heap.size w2 W)) (fun v62 _ => sm.length - (intOf v62).toNat)
    case atStart => exact ⟨0, Nat.zero_le _, rfl, HB3, HD3, HF3⟩
    case round =>
      clear HB3 HD3 HF3
      obtain ⟨i, hi, rfl, HB, HD, HF⟩ := hrel
      by_cases hlt : i < sm.length
      · obtain ⟨a, ha⟩ : ∃ a, sm[i]? = some a := ⟨_, List.getElem?_eq_getElem hlt⟩
        obtain ⟨b, hb, r0, r1, r2, r4, r5⟩ := HT.out.2.1 i a ha
        obtain ⟨ad, rfl, ⟨e0, e1, e2, e3, e4, e5, e6, e7, e8, e9, e10, e11, e12, e13⟩, -, -⟩ := (HS2.out.below HF.out) i a ha
        obtain ⟨bd, rfl, ⟨f0, f1, f2, f3, f4, f5, f6, f7, f8, f9, f10, f11, f12, f13⟩, -, -⟩ := (HS1.out.below HD.out) i b hb
        have hbl : (bd.add (i * 14)).block < wr.heap.size := World.block_lt_of_cell? _ _ f0
        have hlt2 : i < sp.length := Nat.lt_of_lt_of_le hlt hle
        obtain ⟨⟨s0, s1, s2, s3, s4, s5⟩, Aa, ca⟩ := a
        obtain ⟨⟨t0, t1, t2, t3, t4, t5⟩, Ab, cb⟩ := b
        simp only at r0 r1 r2 r4 r5 e0 e1 e2 e3 e4 e5 e6 e7 e8 e9 e10 e11 e12 e13 f0 f1 f2 f3 f4 f5 f6 f7 f8 f9 f10 f11 f12 f13
        subst r0 r1 r2 r4
        have hq := eq36_refl s2
        have HBn : ∀ x y, Aside0 (Below w.heap.size w ((wr.alloc x).alloc y)) := fun x y => ⟨(HB.out.alloc HB.out.size _).alloc (by have := HB.out.size; simp; omega) _⟩
        have HDn : ∀ x y, Aside0 (Below w1.heap.size w1 ((wr.alloc x).alloc y)) := fun x y => ⟨(HD.out.alloc HD.out.size _).alloc (by have := HD.out.size; simp; omega) _⟩
        have HFn : ∀ x y, Aside0 (Below w2.heap.size w2 ((wr.alloc x).alloc y)) := fun x y => ⟨(HF.out.alloc HF.out.size _).alloc (by have := HF.out.size; simp; omega) _⟩
        have HHn := Aside0.mk (And.intro HBn (And.intro HDn HFn))
        clear ha hb HBn HDn HFn
        by_cases hr : s5 = t5
        · subst hr
          clear r5
          go_wp2
          go_roundw
          case rel => exact ⟨i + 1, hlt, by go_num, HHn.out.1 _ _, HHn.out.2.1 _ _, HHn.out.2.2 _ _⟩
          case measure => simp [intOf]; omega
        · have r6 := r5.resolve_left hr
          obtain ⟨r7, r8⟩ := r6
          have h1 : (s5 == t5) = false := by simpa using hr
          have h2 : (s5 != t5) = true := by simpa using hr
          have h3 : (s5 == -1) = true := by simpa using r7
          have h4 : (s5 != -1) = false := by simpa using r7
          have h5 : decide (t5 < (k : Int)) = false := decide_eq_false (by omega)
          clear r5 hr r7 r8
          go_wp2
          go_roundw
          case rel => exact ⟨i + 1, hlt, by go_num, HHn.out.1 _ _, HHn.out.2.1 _ _, HHn.out.2.2 _ _⟩
          case measure => simp [intOf]; omega
      · obtain rfl : i = sm.length := by omega
        by_cases he : sm.length = sp.length
        · have h1 : decide ((sm.length : Int) = (sp.length : Int)) = true := decide_eq_true (by omega)
          have h2 : ((sm.length : Int) == (sp.length : Int)) = true := beq_iff_eq.mpr (by omega)
          clear he
          go_wp2
          go_ret
          exact ⟨rfl, HB.out⟩
        · have h2 : ((sm.length : Int) == (sp.length : Int)) = false := by simp; omega
          obtain ⟨b, hb⟩ : ∃ b, sp[sm.length]? = some b := ⟨_, List.getElem?_eq_getElem (by omega)⟩
          obtain ⟨bd, rfl, ⟨f0, f1, f2, f3, f4, f5, f6, f7, f8, f9, f10, f11, f12, f13⟩, -, -⟩ := (HS1.out.below HD.out) _ b hb
          have h3 := HT.out.2.2 b hb
          have hlt2 : sm.length < sp.length := by omega
          have h4 : decide ((k : Int) ≤ b.1.f4) = true := decide_eq_true h3
          clear hb he
          go_wp2
          go_ret
          exact ⟨rfl, HB.out⟩
end Go.Proofs.Ytobfcppjmocgnaa.Own

/-
  history.Alone, Open and Before, and the reference's Open, walked by hand.
-/
import Derived.Test.YtobfcppjmocgnaaRefSpans
import Derived.Test.YtobfcppjmocgnaaPx5
namespace Go.Proofs.Ytobfcppjmocgnaa.Own
open Go.RowKit Go.Shelf Go.Proofs.YtobfcppjmocgnaaW.PrintWords Go.Proofs.YtobfcppjmocgnaaW.PrintLast Go.Proofs.Ytobfcppjmocgnaa.P
set_option linter.unusedVariables false

/-- Did a call end ahead of another one? -/
def befB (s t : S41) : Bool := decide (0 ≤ s.f5) && decide (s.f5 < t.f4)
set_option maxRecDepth 100000 in
set_option maxHeartbeats 4000000 in
theorem before_calls (s t : S41) (A B : Option Addr) (c d : Nat) (w : World) : Calls Try.prog 16 #[.agg (spc s A c), .agg (spc t B d)] w fun e w' => e = .returned (.bool (befB s t)) ∧ Below w.heap.size w w' := by
  unfold spc befB
  by_cases h : 0 ≤ s.f5
  · have h1 : decide (0 ≤ s.f5) = true := decide_eq_true h
    rw [h1, Bool.true_and]
    go_enter Try.func16, Try.ntmps16
    go_wp2
    go_ret
    exact ⟨rfl, ((Below.refl _ w).alloc (Nat.le_refl _) _).alloc (by simp) _⟩
  · have h1 : decide (0 ≤ s.f5) = false := decide_eq_false h
    rw [h1, Bool.false_and]
    go_enter Try.func16, Try.ntmps16
    go_wp2
    go_ret
    exact ⟨rfl, ((Below.refl _ w).alloc (Nat.le_refl _) _).alloc (by simp) _⟩
set_option maxRecDepth 100000 in
set_option maxHeartbeats 4000000 in
theorem refBefore_calls (s t : S41) (A B : Option Addr) (c d : Nat) (w : World) : Calls Try.prog 17 #[.agg (spc s A c), .agg (spc t B d)] w fun e w' => e = .returned (.bool (befB s t)) ∧ Below w.heap.size w w' := by
  unfold spc befB
  by_cases h : 0 ≤ s.f5
  · have h1 : decide (0 ≤ s.f5) = true := decide_eq_true h
    rw [h1, Bool.true_and]
    go_enter Try.func17, Try.ntmps17
    go_wp2
    go_ret
    exact ⟨rfl, ((Below.refl _ w).alloc (Nat.le_refl _) _).alloc (by simp) _⟩
  · have h1 : decide (0 ≤ s.f5) = false := decide_eq_false h
    rw [h1, Bool.false_and]
    go_enter Try.func17, Try.ntmps17
    go_wp2
    go_ret
    exact ⟨rfl, ((Below.refl _ w).alloc (Nat.le_refl _) _).alloc (by simp) _⟩

/-- A span that is not alone, of so many events. -/
def alB (n : Nat) (s : S41) : Bool := s.f5 != s.f4 + 1 && s.f4 != (n : Int) - 1
set_option maxRecDepth 100000 in
set_option maxHeartbeats 4000000 in
theorem al1_calls (s : S41) (A Ah : Option Addr) (c Bh n cap : Nat) (w : World) (hB : w.cell? ⟨Bh, 0, none⟩ = some (.slice Ah n cap)) (h0 : 0 ≤ s.f4) (h1 : s.f4 ≤ 50) (hn : n ≤ 50) :
    Calls Try.prog 28 #[.agg (spc s A c), .pointer (some ⟨Bh, 0, none⟩)] w fun e w' => e = .returned (.bool (alB n s)) ∧ Below w.heap.size w w' := by
  have hlt : Bh < w.heap.size := World.block_lt_of_cell? _ _ hB
  unfold spc
  by_cases h : s.f5 = s.f4 + 1
  · have e : alB n s = false := by simp [alB, h]
    rw [e]
    have hb : (s.f5 == s.f4 + 1) = true := by simp [h]
    have hb2 : (s.f5 != s.f4 + 1) = false := by simp [h]
    clear e h
    go_enter Try.func28, Try.ntmps28
    go_wp2
    go_ret
    exact ⟨rfl, (Below.refl _ w).alloc (Nat.le_refl _) _⟩
  · have e : alB n s = (s.f4 != (n : Int) - 1) := by simp [alB, h]
    rw [e]
    have hb : (s.f5 == s.f4 + 1) = false := by simp [h]
    have hb2 : (s.f5 != s.f4 + 1) = true := by simp [h]
    clear e h
    go_enter Try.func28, Try.ntmps28
    go_wp2
    go_ret
    exact ⟨rfl, (Below.refl _ w).alloc (Nat.le_refl _) _⟩

set_option maxRecDepth 100000 in
set_option maxHeartbeats 8000000 in
theorem indexS_calls (A Ah : Option Addr) (c Bh n cap : Nat) (sp : List SP) (hl : sp.length ≤ 50) (w : World) (hS : Sps w A sp) (hB : w.cell? ⟨Bh, 0, none⟩ = some (.slice Ah n cap)) (hn : n ≤ 50) (hf : ∀ p ∈ sp, 0 ≤ p.1.f4 ∧ p.1.f4 ≤ 50) :
    Calls Try.prog 32 #[.slice A sp.length c, .func (.func 28) #[] #[.pointer (some ⟨Bh, 0, none⟩)]] w fun e w' => ∃ r : Int, e = .returned (.int .i64 r) ∧ (decide (0 ≤ r)) = sp.any (fun p => alB n p.1) ∧ Below w.heap.size w w' := by
  have HS := Aside0.mk hS
  have HBh := Aside0.mk hB
  have HF := Aside0.mk hf
  clear hS hB hf
  go_enter Try.func32, Try.ntmps32
  go_wp2
  go_loopw [8] (fun v8 W => ∃ k : Nat, k ≤ sp.length ∧ v8 = .int .i64 k ∧ Aside0 ((sp.take k).any (fun p => alB n p.1) = false) ∧ Aside0 (Below w.heap.size w W)) (fun v8 _ => sp.length - (intOf v8).toNat)
  case atStart => exact ⟨0, Nat.zero_le _, rfl, ⟨rfl⟩, ⟨Below.refl _ _⟩⟩
  case round =>
    obtain ⟨k, hk, rfl, HA, HB⟩ := hrel
    by_cases hlt : k < sp.length
    · obtain ⟨p, hp⟩ : ∃ p, sp[k]? = some p := ⟨_, List.getElem?_eq_getElem hlt⟩
      obtain ⟨ad, rfl, ⟨e0, e1, e2, e3, e4, e5, e6, e7, e8, e9, e10, e11, e12, e13⟩, -, -⟩ := (HS.out.below HB.out) k p hp
      have HX := Aside0.mk hp
      have hin : p ∈ sp := List.mem_of_getElem? hp
      have HF1 := Aside0.mk (HF.out p hin)
      have hu : (sp.take (k + 1)).any (fun p => alB n p.1) = alB n p.1 := by
        rw [take_snoc hp, List.any_append, HA.out]; simp
      clear hp
      cases hq : alB n p.1 with
      | false =>
        rw [hq] at hu
        have HU := Aside0.mk hu
        clear hu hin
        go_wp2_with (go_at_call 28; refine (al1_calls p.1 p.2.1 Ah p.2.2 Bh n cap _ (pw_cell_below HB.out HBh.out) HF1.out.1 HF1.out.2 hn).mono ?_; rintro e w' ⟨rfl, hb⟩; rw [hq])
        clear hq
        go_roundw
        case rel => exact ⟨k + 1, hlt, by go_num, HU, ⟨HB.out.trans (hb.mono HB.out.size)⟩⟩
        case measure => simp [intOf]; omega
      | true =>
        have HI := Aside0.mk hin
        have HQ := Aside0.mk hq
        clear hu hin
        go_wp2_with (go_at_call 28; refine (al1_calls p.1 p.2.1 Ah p.2.2 Bh n cap _ (pw_cell_below HB.out HBh.out) HF1.out.1 HF1.out.2 hn).mono ?_; rintro e w' ⟨rfl, hb⟩; rw [hq])
        clear hq
        go_ret
        exact ⟨k, rfl, by rw [decide_eq_true (by omega)]; exact (List.any_eq_true.mpr ⟨p, HI.out, HQ.out⟩).symm, HB.out.trans (hb.mono HB.out.size)⟩
    · obtain rfl : k = sp.length := by omega
      go_wp2
      go_ret
      exact ⟨-1, rfl, by rw [List.take_length] at HA; rw [HA.out]; rfl, HB.out⟩
set_option maxRecDepth 100000 in
set_option maxHeartbeats 4000000 in
theorem containsS_calls (A Ah : Option Addr) (c Bh n cap : Nat) (sp : List SP) (hl : sp.length ≤ 50) (w : World) (hS : Sps w A sp) (hB : w.cell? ⟨Bh, 0, none⟩ = some (.slice Ah n cap)) (hn : n ≤ 50) (hf : ∀ p ∈ sp, 0 ≤ p.1.f4 ∧ p.1.f4 ≤ 50) :
    Calls Try.prog 27 #[.slice A sp.length c, .func (.func 28) #[] #[.pointer (some ⟨Bh, 0, none⟩)]] w fun e w' => e = .returned (.bool (sp.any (fun p => alB n p.1))) ∧ Below w.heap.size w w' := by
  have HS := Aside0.mk hS
  have HBh := Aside0.mk hB
  have HF := Aside0.mk hf
  clear hS hB hf
  go_enter Try.func27, Try.ntmps27
  go_wp2_with (go_at_call 32; refine (indexS_calls A Ah c Bh n cap sp hl _ HS.out HBh.out hn HF.out).mono ?_; rintro e w' ⟨r, rfl, hr, hb⟩; have HR := Aside0.mk hr; clear hr)
  go_ret
  exact ⟨by rw [← HR.out]; rfl, hb⟩

theorem spTo_from (l : List S53) (hd : Nat → Option Addr × Nat) (k : Nat) : ∀ p ∈ spTo l hd k, 0 ≤ p.1.f4 ∧ p.1.f4 < k := by
  induction k with
  | zero => intro p hp; simp [spTo] at hp
  | succ k ih =>
    intro p hp
    simp only [spTo, List.mem_append] at hp
    rcases hp with hp | hp
    · have := ih p hp; omega
    · split at hp
      · unfold spOf at hp
        split at hp
        · simp only [List.mem_singleton] at hp
          subst hp
          simp only
          cases nextE l hd k _ <;> simp [spanV] <;> omega
        · cases hp
      · cases hp
set_option maxRecDepth 100000 in
set_option maxHeartbeats 8000000 in
theorem alone_calls (A : Option Addr) (c : Nat) (l : List S53) (hd : Nat → Option Addr × Nat) (w : World) (hC : Kd.C k53 w A l.length l) (hE : Evs w A l hd) (hl : l.length ≤ 50) :
    Calls Try.prog 14 #[.slice A l.length c] w fun e w' => e = .returned (.tuple #[.bool (if okH l then !(spTo l hd l.length).any (fun p => alB l.length p.1) else false), .int .i64 (if okH l then 0 else 1)]) ∧ Below w.heap.size w w' := by
  have HC := Aside0.mk hC
  have HE := Aside0.mk hE
  obtain ⟨sp, hsp⟩ : ∃ sp, sp = if okH l then spTo l hd l.length else [] := ⟨_, rfl⟩
  have HSP := Aside0.mk hsp
  have hB0 : Below w.heap.size w (w.alloc (.cells #[.slice A l.length c] 22)) := (Below.refl _ w).alloc (Nat.le_refl _) _
  have HB0 := Aside0.mk hB0
  have HCell : Aside0 ((w.alloc (.cells #[.slice A l.length c] 22)).cell? ⟨w.heap.size, 0, none⟩ = some (.slice A l.length c)) := ⟨(blk_cell (blk_new w _) 0).trans rfl⟩
  clear hC hE hsp hB0
  cases ho : okH l with
  | false =>
    have HO := Aside0.mk ho
    clear ho
    go_enter Try.func14, Try.ntmps14
    go_wp2_with (go_at_call 8; refine (spans_told A c l hd _ (Kd.C_below HC.out HB0.out) (HE.out.below HB0.out) hl sp HSP.out).mono ?_; rintro e w1 ⟨B, d, rfl, hs, hb1⟩; rw [HO.out]; have HB1 := Aside0.mk hb1; clear hb1 hs)
    go_ret2
    exact ⟨rfl, HB0.out.trans (HB1.out.mono HB0.out.size)⟩
  | true =>
    have HO := Aside0.mk ho
    clear ho
    have hs1 : sp = spTo l hd l.length := by rw [HSP.out, HO.out]; rfl
    have hs2 : sp.length ≤ 50 := by rw [hs1]; exact Nat.le_trans (spTo_length _ _ _) hl
    have HF : Aside0 (∀ p ∈ sp, 0 ≤ p.1.f4 ∧ p.1.f4 ≤ 50) := ⟨fun p hp => by rw [hs1] at hp; have := spTo_from l hd _ p hp; omega⟩
    have HS1 := Aside0.mk hs1
    clear hs1
    go_enter Try.func14, Try.ntmps14
    go_wp2_with (first
      | (go_at_call 8; refine (spans_told A c l hd _ (Kd.C_below HC.out HB0.out) (HE.out.below HB0.out) hl sp HSP.out).mono ?_; rintro e w1 ⟨B, d, rfl, hs, hb1⟩; rw [HO.out]; have HB1 := Aside0.mk hb1; have HSS := Aside0.mk hs; clear hb1 hs)
      | (go_at_call 27; refine (containsS_calls B A d w.heap.size l.length c sp hs2 _ HSS.out (pw_cell_below HB1.out HCell.out) hl HF.out).mono ?_; rintro e w2 ⟨rfl, hb2⟩))
    go_ret2
    exact ⟨by rw [← HS1.out]; rfl, (HB0.out.trans (HB1.out.mono HB0.out.size)).trans (hb2.mono (HB0.out.trans (HB1.out.mono HB0.out.size)).size)⟩
end Go.Proofs.Ytobfcppjmocgnaa.Own

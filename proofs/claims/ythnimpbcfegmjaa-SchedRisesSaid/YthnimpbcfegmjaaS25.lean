/-
  sched.Done, walked by hand.
-/
import Derived.Test.YthnimpbcfegmjaaA2
namespace Go.Proofs.Ythnimpbcfegmjaa.Own
open Go.RowKit Go.Proofs.YthnimpbcfegmjaaW.PrintWords Go.Proofs.YthnimpbcfegmjaaW.PrintLast Go.Proofs.YthnimpbcfegmjaaW.PrintMore Go.Proofs.Ythnimpbcfegmjaa.P Go.Proofs.Ythnimpbcfegmjaa.Model
set_option linter.unusedVariables false
set_option linter.unusedSimpArgs false

def atEnd (p : List S44 × Int) : Bool := decide ((p.1.length : Int) ≤ p.2)
def doneTo (s : Syst) (k : Nat) : Bool := ((s.th.zip s.at_).take k).all atEnd
theorem doneTo_succ {s : Syst} {k : Nat} {l : List S44} {a : Int} (hl : s.th[k]? = some l) (ha : s.at_[k]? = some a) : doneTo s (k + 1) = (doneTo s k && atEnd (l, a)) := by
  have hz : (s.th.zip s.at_)[k]? = some (l, a) := by rw [List.getElem?_zip_eq_some]; exact ⟨hl, ha⟩
  unfold doneTo
  rw [List.take_add_one, hz, List.all_append]
  simp
theorem doneTo_all {s : Syst} (h : s.at_.length = s.th.length) : doneTo s s.th.length = doneB s := by
  unfold doneTo doneB
  rw [List.take_of_length_le (by rw [List.length_zip]; omega)]
  rfl
theorem done_not {s : Syst} {k : Nat} {l : List S44} {a : Int} (hl : s.th[k]? = some l) (ha : s.at_[k]? = some a) (h : a < l.length) : doneB s = false := by
  have hz : (s.th.zip s.at_)[k]? = some (l, a) := by rw [List.getElem?_zip_eq_some]; exact ⟨hl, ha⟩
  unfold doneB
  rw [List.all_eq_false]
  exact ⟨(l, a), List.mem_of_getElem? hz, by simp; omega⟩
def DoneP (b : Bool) (c : Int) (w : World) (e : Ending) (w' : World) : Prop := e = .returned (.tuple #[.bool b, .int .i64 c]) ∧ Below w.heap.size w w'
set_option maxRecDepth 100000 in
set_option maxHeartbeats 4000000 in
theorem xDone_calls (s : Syst) (p : Ad) (w : World) (hC : SysC w s p) (hbd : Bd s) : Calls Try.prog 18 #[.agg (sysA s p)] w (DoneP (rightB s && doneB s) (eno (rightB s)) w) := by
  have hB1 : Below w.heap.size w (w.alloc (.cells (sysA s p) 26)) := (Below.refl _ _).alloc (Nat.le_refl _) _
  have HB1 := Aside0.mk hB1
  have HR := Aside0.mk (right_calls s p _ (hC.below hB1) hbd)
  have HC := Aside0.mk hC
  have HG := Aside0.mk (blk_new w (.cells (sysA s p) 26))
  obtain ⟨a0, c0, a1, c1, a2, c2, a3, c3, a4, c4, a5, c5⟩ := p
  unfold sysA at *
  dsimp only at *
  clear hB1 hC hbd
  cases hr : rightB s with
  | false =>
    have HRR := Aside0.mk hr
    clear hr
    have HQ : Aside0 (DoneP (false && doneB s) (eno false) w = fun e w' => e = .returned (.tuple #[.bool false, .int .i64 1]) ∧ Below w.heap.size w w') := ⟨rfl⟩
    rw [HQ.out]
    go_enter Try.func18, Try.ntmps18
    go_wp2_with (go_at_call 20; refine HR.out.mono ?_; rintro e w2 ⟨rfl, hb⟩; rw [HRR.out]; have HB2 := Aside0.mk (HB1.out.trans (hb.mono HB1.out.size)); clear hb)
    go_ret2
    refine ⟨?_, HB2.out⟩
    go_simp
  | true =>
    have HRR := Aside0.mk hr
    have HS := Aside0.mk (right_shp hr)
    clear hr
    have HQ : Aside0 (DoneP (true && doneB s) (eno true) w = fun e w' => e = .returned (.tuple #[.bool (doneB s), .int .i64 0]) ∧ Below w.heap.size w w') := ⟨rfl⟩
    rw [HQ.out]
    have HAT := Aside0.mk HS.out.at_
    have HN8 := Aside0.mk HS.out.n
    go_enter Try.func18, Try.ntmps18
    go_wp2_with (go_at_call 20; refine HR.out.mono ?_; rintro e w2 ⟨rfl, hb⟩; rw [HRR.out]; have HB2 := Aside0.mk (HB1.out.trans (hb.mono HB1.out.size)); have hg := blk_below HG.out hb; have HG2 := Aside0.mk hg; have q0 := blk_cell hg 0; have q1 := blk_cell hg 1; clear hb hg)
    have HC2 := Aside0.mk (HC.out.below HB2.out)
    go_loopw [12] (fun v12 W => ∃ k : Nat, k ≤ s.th.length ∧ v12 = .int .i64 k ∧ W = w2 ∧ Aside0 (doneTo s k = true)) (fun v12 _ => s.th.length - (intOf v12).toNat)
    case atStart => exact ⟨0, Nat.zero_le _, rfl, rfl, ⟨rfl⟩⟩
    case round =>
      obtain ⟨k, hk, rfl, hW, HD⟩ := hrel
      subst hW
      by_cases hlt : k < s.th.length
      · obtain ⟨l, hl⟩ : ∃ l, s.th[k]? = some l := ⟨_, List.getElem?_eq_getElem hlt⟩
        obtain ⟨a, ha⟩ : ∃ a, s.at_[k]? = some a := ⟨_, List.getElem?_eq_getElem (by have := HAT.out; omega)⟩
        obtain ⟨ad, A0, cc, e0, t0, -, -⟩ := at_L2 HC2.out.r0 (k : Int) (by omega) (by omega)
        have e0' : a0 = some ad := e0
        subst e0'
        rw [rdT hl, Int.toNat_natCast] at t0
        obtain ⟨ad1, e1, t1⟩ := Kd.at_int HC2.out.r1 (k : Int) (by omega) (by have := HAT.out; omega)
        have e1' : a1 = some ad1 := e1
        subst e1'
        rw [rdI ha, Int.toNat_natCast] at t1
        have hka : k < s.at_.length := by have := HAT.out; omega
        by_cases hal : a < (l.length : Int)
        · have HDN := Aside0.mk (done_not hl ha hal)
          clear hl ha
          go_wp2
          go_ret2
          rw [HDN.out]
          refine ⟨?_, HB2.out⟩
          go_simp
        · have HDN := Aside0.mk (doneTo_succ hl ha)
          have HAE : Aside0 (atEnd (l, a) = true) := ⟨decide_eq_true (show (l.length : Int) ≤ a by omega)⟩
          clear hl ha
          have hn8 := HN8.out
          go_wp2
          go_roundw
          case rel => exact ⟨k + 1, hlt, by go_num, trivial, ⟨by rw [HDN.out, HD.out, HAE.out]; rfl⟩⟩
          case measure => simp [intOf]; omega
      · obtain rfl : k = s.th.length := by omega
        go_wp2
        go_ret2
        rw [← doneTo_all HAT.out, HD.out]
        refine ⟨?_, HB2.out⟩
        go_simp
end Go.Proofs.Ythnimpbcfegmjaa.Own

/-
  history.Right, whether a history may be, walked by hand.
-/
import Derived.Test.YtobfcppjmocgnaaOwn
namespace Go.Proofs.Ytobfcppjmocgnaa.Own
open Go.RowKit Go.Shelf Go.Proofs.YtobfcppjmocgnaaW.PrintWords Go.Proofs.YtobfcppjmocgnaaW.PrintLast Go.Proofs.Ytobfcppjmocgnaa.P
set_option linter.unusedVariables false

/-- A client's events may be. -/
def okC (l : List S53) (c : Nat) : Bool := okRow 0 z53 (l.filter (fun x => x.f0 == (c : Int)))
/-- A history may be. -/
def okH (l : List S53) : Bool := decide (l.length ≤ 48) && (!l.any (fun x => okCl x.f0) && (List.range 4).all (okC l))
theorem own_calls (A : Option Addr) (c : Nat) (l : List S53) (k : Nat) (hl : l.length ≤ 50) (w : World) (hC : Kd.C k53 w A l.length l) :
    Calls Try.prog 24 #[.slice A l.length c, .int .i64 k] w fun e w' => e = .returned (.bool (okC l k)) ∧ Below w.heap.size w w' := callsIn_wide.1 (own_in 3 (Nat.le_refl _) A c l k hl w hC)

set_option maxRecDepth 100000 in
set_option maxHeartbeats 4000000 in
theorem right_calls (A : Option Addr) (c : Nat) (l : List S53) (w : World) (hC : Kd.C k53 w A l.length l) (hl : l.length ≤ 50) :
    Calls Try.prog 9 #[.slice A l.length c] w fun e w' => e = .returned (.bool (okH l)) ∧ Below w.heap.size w w' := by
  have HC := Aside0.mk hC
  clear hC
  by_cases h48 : l.length ≤ 48
  · have e1 : okH l = (!l.any (fun x => okCl x.f0) && (List.range 4).all (okC l)) := by unfold okH; rw [decide_eq_true h48, Bool.true_and]
    rw [e1]
    clear e1
    cases ha : l.any (fun x => okCl x.f0) with
    | true =>
      go_enter Try.func9, Try.ntmps9
      go_wp2_with (go_at_call 22; refine (contains_calls A c l _ HC.out hl).mono ?_; rintro e w' ⟨rfl, hb⟩; rw [ha])
      go_ret
      exact ⟨rfl, hb⟩
    | false =>
      go_enter Try.func9, Try.ntmps9
      go_wp2_with (go_at_call 22; refine (contains_calls A c l _ HC.out hl).mono ?_; rintro e w' ⟨rfl, hb⟩; rw [ha])
      clear ha
      have HB := Aside0.mk hb
      clear hb
      go_loopw [11] (fun v11 W => ∃ k : Nat, k ≤ 4 ∧ v11 = .int .i64 k ∧ Aside0 ((List.range k).all (okC l) = true) ∧ Aside0 (Below w.heap.size w W)) (fun v11 _ => 4 - (intOf v11).toNat)
      case atStart => exact ⟨0, by omega, rfl, ⟨rfl⟩, HB⟩
      case round =>
        clear HB
        obtain ⟨k, hk, rfl, HA, HB⟩ := hrel
        by_cases hlt : k < 4
        · have hs : (List.range (k + 1)).all (okC l) = okC l k := by rw [List.range_succ, List.all_append, HA.out]; simp
          have HS := Aside0.mk hs
          clear hs
          cases hq : okC l k with
          | true =>
            go_wp2_with (go_at_call 24; refine (own_calls A c l k hl _ (Kd.C_below HC.out HB.out)).mono ?_; rintro e w' ⟨rfl, hb⟩; rw [hq])
            go_roundw
            case rel => exact ⟨k + 1, hlt, by go_num, ⟨HS.out.trans hq⟩, ⟨HB.out.trans (hb.mono HB.out.size)⟩⟩
            case measure => simp [intOf]; omega
          | false =>
            go_wp2_with (go_at_call 24; refine (own_calls A c l k hl _ (Kd.C_below HC.out HB.out)).mono ?_; rintro e w' ⟨rfl, hb⟩; rw [hq])
            go_ret
            exact ⟨by
              have : (List.range 4).all (okC l) = false := by
                rw [List.all_eq_false]; exact ⟨k, List.mem_range.mpr hlt, by rw [hq]; decide⟩
              rw [this]; rfl, HB.out.trans (hb.mono HB.out.size)⟩
        · obtain rfl : k = 4 := by omega
          go_wp2
          go_ret
          exact ⟨by rw [HA.out]; rfl, HB.out⟩
  · have e1 : okH l = false := by unfold okH; rw [decide_eq_false h48, Bool.false_and]
    rw [e1]
    clear e1
    go_enter Try.func9, Try.ntmps9
    go_wp2
    go_ret
    exact ⟨rfl, Below.refl _ _⟩
end Go.Proofs.Ytobfcppjmocgnaa.Own

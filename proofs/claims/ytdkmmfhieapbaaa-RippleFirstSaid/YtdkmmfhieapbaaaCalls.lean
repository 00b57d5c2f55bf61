/-
  The contracts that the laws of drops use, in one form each.
-/
import Derived.Test.YtdkmmfhieapbaaaPureSort
import Derived.Deep.RegionHeld3
namespace Go.Proofs.Ytdkmmfhieapbaaa.Own
open Go.RowKit Go.Proofs.YtdkmmfhieapbaaaW.PrintWords Go.Proofs.YtdkmmfhieapbaaaW.PrintLast Go.Proofs.Ytdkmmfhieapbaaa.P Go.Proofs.Ytdkmmfhieapbaaa.Plain Go.Proofs.Ytdkmmfhieapbaaa.Pure
set_option linter.unusedVariables false

/-- A row of drops comes back. -/
def OutC (L : List S24) (w : World) (e : Ending) (w' : World) : Prop := ∃ A c, e = .returned (.slice A L.length c) ∧ L.length ≤ c ∧ Kd.C k24 w' A L.length L ∧ Below w.heap.size w w'
theorem outC_of {L : List S24} {w w' : World} {v : Value} {base : Nat} {ok : Nat → Prop} (h : Kd.R k24 24 w' base ok v L) (hb : Below w.heap.size w w') : OutC L w (.returned v) w' := by
  obtain ⟨A, c, rfl, hl, hr⟩ := Kd.R_reads h
  exact ⟨A, c, rfl, hl, hr, hb⟩
theorem sorted_at (A : Option Addr) (c : Nat) (l : List S24) (w : World) (hC : Kd.C k24 w A l.length l) (hc : l.length ≤ c) (hm : l.length ≤ 60000) : Calls Try.prog 13 #[.slice A l.length c] w (OutC (srt ltB l) w) := by
  refine (ripple_Sorted.calls A c l _ w hC hc (sorted_f l (by omega))).mono ?_
  rintro e w' ⟨v, rfl, hr, hb⟩
  exact outC_of hr hb
theorem refSorted_at (A : Option Addr) (c : Nat) (l : List S24) (w : World) (hC : Kd.C k24 w A l.length l) (hc : l.length ≤ c) (hm : l.length ≤ 60000) : Calls Try.prog 9 #[.slice A l.length c] w (OutC (srt ltB l) w) := by
  refine (downpourref14_Sorted.calls _ A c l _ w hC hc (sorted_eq l (by omega) _ (Nat.le_refl _))).mono ?_
  rintro e w' ⟨v, rfl, hr, hb⟩
  exact outC_of hr hb
/-- The drops in order come back. -/
def OutS (l : List S24) (w : World) (e : Ending) (w' : World) : Prop := ∃ A c, e = .returned (.slice A l.length c) ∧ l.length ≤ c ∧ Kd.C k24 w' A l.length (srt ltB l) ∧ Below w.heap.size w w'
theorem outS_of {l : List S24} {w w' : World} {e : Ending} (h : OutC (srt ltB l) w e w') : OutS l w e w' := by
  unfold OutC at h
  rw [srt_length] at h
  exact h
theorem sortedS_at (A : Option Addr) (c : Nat) (l : List S24) (w : World) (hC : Kd.C k24 w A l.length l) (hc : l.length ≤ c) (hm : l.length ≤ 60000) : Calls Try.prog 13 #[.slice A l.length c] w (OutS l w) :=
  (sorted_at A c l w hC hc hm).mono fun _ _ h => outS_of h
theorem refSortedS_at (A : Option Addr) (c : Nat) (l : List S24) (w : World) (hC : Kd.C k24 w A l.length l) (hc : l.length ≤ c) (hm : l.length ≤ 60000) : Calls Try.prog 9 #[.slice A l.length c] w (OutS l w) :=
  (refSorted_at A c l w hC hc hm).mono fun _ _ h => outS_of h
theorem same_at (A B : Option Addr) (c d n m : Nat) (l : List S24) (w : World) (hn : n = l.length) (hm : m = l.length) (hC : Kd.C k24 w A l.length l) (hc : l.length ≤ c) (hD : Kd.C k24 w B l.length l) (hd : l.length ≤ d) (hl : l.length ≤ 60000) :
    Calls Try.prog 12 #[.slice A n c, .slice B m d] w fun e w' => e = .returned (.bool true) ∧ Below w.heap.size w w' := by
  subst hn hm
  refine (downpourref14_Same.calls _ A c l B d l _ w hC hc hD hd (same_self l (by omega) _ (Nat.lt_succ_self _))).mono ?_
  rintro e w' ⟨rfl, hb⟩
  exact ⟨rfl, hb.below⟩
theorem sameN_at (A B : Option Addr) (c d n : Nat) (l : List S24) (w : World) (hC : Kd.C k24 w A n l) (hc : n ≤ c) (hD : Kd.C k24 w B n l) (hd : n ≤ d) (hl : n ≤ 60000) :
    Calls Try.prog 12 #[.slice A n c, .slice B n d] w fun e w' => e = .returned (.bool true) ∧ Below w.heap.size w w' := by
  obtain rfl := hC.1
  exact same_at A B c d _ _ l w rfl rfl hC hc hD hd hl
theorem alive_at (w : World) : Calls Try.prog 14 #[] w fun e w' => e = .returned (.bool true) ∧ Below w.heap.size w w' := downpourlaw14_alive.calls true w alive_f
theorem refBefore_at (a b : S24) (w : World) : Calls Try.prog 11 #[.agg #[.int .i64 a.f0, .int .u64 a.f1], .agg #[.int .i64 b.f0, .int .u64 b.f1]] w fun e w' => e = .returned (.bool (ltB a b)) ∧ Below w.heap.size w w' :=
  downpourref14_Before.calls a.f0 a.f1 b.f0 b.f1 _ w (refBefore a b)
theorem first_no (A : Option Addr) (c : Nat) (l : List S24) (k : Int) (w : World) (hC : Kd.C k24 w A l.length l) (hc : l.length ≤ c) (hm : l.length ≤ 60000) (hk : k < 0 ∨ (l.length : Int) < k) :
    Calls Try.prog 8 #[.slice A l.length c, .int .i64 k] w fun e w' => ∃ B d, e = .returned (.tuple #[.slice B 0 d, .int .i64 2]) ∧ Below w.heap.size w w' := by
  have h : ripple_First.f l k = some ([], 2) := by
    unfold ripple_First.f
    by_cases h1 : k < 0
    · rw [if_pos h1]
    · rw [if_neg h1, if_pos (by omega)]
  refine (ripple_First.calls A c l k [] 2 w hC hc h).mono ?_
  rintro e w' ⟨v, rfl, hr, hb⟩
  obtain ⟨B, d, rfl, _⟩ := Kd.R_reads hr
  exact ⟨B, d, rfl, hb⟩
theorem first_at (A : Option Addr) (c : Nat) (l : List S24) (k : Nat) (w : World) (hC : Kd.C k24 w A l.length l) (hc : l.length ≤ c) (hm : l.length ≤ 60000) (hk : k ≤ l.length) :
    Calls Try.prog 8 #[.slice A l.length c, .int .i64 k] w fun e w' => ∃ B d, e = .returned (.tuple #[.slice B k d, .int .i64 0]) ∧ k ≤ d ∧ Kd.C k24 w' B k ((srt ltB l).take k) ∧ Below w.heap.size w w' := by
  have h : ripple_First.f l (k : Int) = some ((srt ltB l).take k, 0) := by
    unfold ripple_First.f
    rw [if_neg (by omega), if_neg (by omega), sorted_f _ (by omega), Option.bind_some, if_pos (by omega), if_pos (by rw [srt_length]; omega)]
    rfl
  refine (ripple_First.calls A c l k _ 0 w hC hc h).mono ?_
  rintro e w' ⟨v, rfl, hr, hb⟩
  obtain ⟨B, d, rfl, hl, hr⟩ := Kd.R_reads hr
  have e2 : ((srt ltB l).take k).length = k := by rw [List.length_take, srt_length]; omega
  rw [e2] at hl hr ⊢
  exact ⟨B, d, rfl, hl, hr, hb⟩
set_option maxRecDepth 100000 in
set_option maxHeartbeats 4000000 in
theorem few_at (A : Option Addr) (n c : Nat) (w : World) (hn : n ≤ c) (hm : n ≤ 9223372036854775807) :
    Calls Try.prog 7 #[.slice A n c] w fun e w' => e = .returned (.slice A (min n 60) c) ∧ w = w' := by
  obtain ⟨i0, hi, _, hz1, _⟩ := info_parts info24
  by_cases h : n ≤ 60
  · have hcut := cut_to (P := Try.prog) 25 24 .i64 Try.underlying25 hi A n c (n : Int) (by omega) (by omega) hn
    rw [Nat.min_eq_left h]
    go_enter Try.func7, Try.ntmps7
    go_wp2
    go_ret
    exact ⟨rfl, rfl⟩
  · have hcut := cut_to (P := Try.prog) 25 24 .i64 Try.underlying25 hi A n c (60 : Int) (by omega) (by omega) hn
    rw [Nat.min_eq_right (by omega)]
    go_enter Try.func7, Try.ntmps7
    go_wp2
    go_ret
    exact ⟨rfl, rfl⟩
end Go.Proofs.Ytdkmmfhieapbaaa.Own

/-
  Layer 20's small functions, walked by hand: in, instr, small, and slices' IndexFunc and ContainsFunc over them.
-/
import Derived.Test.YthnimpbcfegmjaaModel
import Derived.Deep.RegionHeld3
namespace Go.Proofs.Ythnimpbcfegmjaa.Own
open Go.RowKit Go.Proofs.YthnimpbcfegmjaaW.PrintWords Go.Proofs.YthnimpbcfegmjaaW.PrintLast Go.Proofs.YthnimpbcfegmjaaW.PrintMore Go.Proofs.Ythnimpbcfegmjaa.P Go.Proofs.Ythnimpbcfegmjaa.Model
set_option linter.unusedVariables false

theorem take_snoc {α : Type} {l : List α} {k : Nat} {x : α} (h : l[k]? = some x) : l.take (k + 1) = l.take k ++ [x] := by
  obtain ⟨hk, rfl⟩ := List.getElem?_eq_some_iff.mp h
  exact List.take_succ_eq_append_getElem hk
theorem rd44 {l : List S44} {i : Nat} {x : S44} (h : l[i]? = some x) : rd_T44 l (i : Int) = x := by unfold rd_T44; rw [Int.toNat_natCast, List.getD_eq_getElem?_getD, h]; rfl
theorem rdI {l : List Int} {i : Nat} {x : Int} (h : l[i]? = some x) : rd l (i : Int) = x := by unfold rd; rw [Int.toNat_natCast, List.getD_eq_getElem?_getD, h]; rfl
theorem in_calls (n lo hi : Int) (w : World) : Calls Try.prog 38 #[.int .i64 n, .int .i64 lo, .int .i64 hi] w fun e w' => e = .returned (.bool (inB n lo hi)) ∧ w = w' := by
  by_cases h : lo ≤ n
  · have e : inB n lo hi = decide (n ≤ hi) := by unfold inB; simp [h]
    rw [e]
    have h1 : decide (lo ≤ n) = true := decide_eq_true h
    clear e
    go_enter Try.func38, Try.ntmps38
    go_wp2
    go_ret
    exact ⟨rfl, rfl⟩
  · have e : inB n lo hi = false := by unfold inB; simp [h]
    rw [e]
    have h1 : decide (lo ≤ n) = false := decide_eq_false h
    clear e
    go_enter Try.func38, Try.ntmps38
    go_wp2
    go_ret
    exact ⟨rfl, rfl⟩
abbrev iv (i : S44) : Value := .agg #[.int .i64 i.f0, .int .i64 i.f1, .int .i64 i.f2]
set_option maxRecDepth 100000 in
set_option maxHeartbeats 4000000 in
theorem instr_calls (i : S44) (w : World) : Calls Try.prog 41 #[iv i] w fun e w' => e = .returned (.bool (okI i)) ∧ Below w.heap.size w w' := by
  cases h1 : inB i.f0 0 4 with
  | false =>
    have e : okI i = false := by unfold okI; rw [h1]; rfl
    rw [e]
    have H1 := Aside0.mk h1
    clear e h1
    go_enter Try.func41, Try.ntmps41
    go_wp2_with (go_at_call 38; refine (in_calls _ _ _ _).mono ?_; rintro e w' ⟨rfl, rfl⟩; rw [H1.out])
    go_ret
    exact ⟨rfl, (Below.refl _ _).alloc (Nat.le_refl _) _⟩
  | true =>
    cases h2 : inB i.f1 0 3 with
    | false =>
      have e : okI i = false := by unfold okI; rw [h1, h2]; rfl
      rw [e]
      have H1 := Aside0.mk h1
      have H2 := Aside0.mk h2
      clear e h1 h2
      go_enter Try.func41, Try.ntmps41
      go_wp2_with (go_at_call 38; refine (in_calls _ _ _ _).mono ?_; rintro e w' ⟨rfl, rfl⟩; first | rw [H1.out] | rw [H2.out])
      go_ret
      exact ⟨rfl, (Below.refl _ _).alloc (Nat.le_refl _) _⟩
    | true =>
      have e : okI i = inB i.f2 (-1000) 1000 := by unfold okI; rw [h1, h2]; rfl
      rw [e]
      have H1 := Aside0.mk h1
      have H2 := Aside0.mk h2
      clear e h1 h2
      go_enter Try.func41, Try.ntmps41
      go_wp2_with (go_at_call 38; refine (in_calls _ _ _ _).mono ?_; rintro e w' ⟨rfl, rfl⟩; first | rw [H1.out] | rw [H2.out] | skip)
      go_ret
      exact ⟨rfl, (Below.refl _ _).alloc (Nat.le_refl _) _⟩
theorem notInstr_calls (i : S44) (w : World) : Calls Try.prog 40 #[iv i] w fun e w' => e = .returned (.bool (!okI i)) ∧ Below w.heap.size w w' := by
  have HB0 : Aside0 (Below w.heap.size w (w.alloc (.cells #[.int .i64 i.f0, .int .i64 i.f1, .int .i64 i.f2] 44))) := ⟨(Below.refl _ _).alloc (Nat.le_refl _) _⟩
  go_enter Try.func40, Try.ntmps40
  go_wp2_with (go_at_call 41; refine (instr_calls i _).mono ?_; rintro e w' ⟨rfl, hb⟩)
  go_ret
  exact ⟨rfl, HB0.out.trans (hb.mono HB0.out.size)⟩
theorem small_calls (n : Int) (w : World) : Calls Try.prog 44 #[.int .i64 n] w fun e w' => e = .returned (.bool (smB n)) ∧ w = w' := by
  by_cases h : -1073741824 < n
  · have e : smB n = decide (n < 1073741824) := by unfold smB; simp [h]
    rw [e]
    have h1 : decide (-1073741824 < n) = true := decide_eq_true h
    clear e
    go_enter Try.func44, Try.ntmps44
    go_wp2
    go_ret
    exact ⟨rfl, rfl⟩
  · have e : smB n = false := by unfold smB; simp [h]
    rw [e]
    have h1 : decide (-1073741824 < n) = false := decide_eq_false h
    clear e
    go_enter Try.func44, Try.ntmps44
    go_wp2
    go_ret
    exact ⟨rfl, rfl⟩
theorem notSmall_calls (n : Int) (w : World) : Calls Try.prog 43 #[.int .i64 n] w fun e w' => e = .returned (.bool (!smB n)) ∧ w = w' := by
  go_enter Try.func43, Try.ntmps43
  go_wp2_with (go_at_call 44; refine (small_calls n _).mono ?_; rintro e w' ⟨rfl, rfl⟩)
  go_ret
  exact ⟨rfl, rfl⟩

set_option maxRecDepth 100000 in
set_option maxHeartbeats 4000000 in
theorem indexI_calls (A : Option Addr) (c : Nat) (l : List S44) (w : World) (hC : Kd.C k44 w A l.length l) (hl : l.length ≤ 100000) :
    Calls Try.prog 61 #[.slice A l.length c, .func (.func 40) #[] #[]] w fun e w' => ∃ r : Int, e = .returned (.int .i64 r) ∧ (decide (0 ≤ r)) = !l.all okI ∧ Below w.heap.size w w' := by
  have HC := Aside0.mk hC
  clear hC
  go_enter Try.func61, Try.ntmps61
  go_wp2
  go_loopw [8] (fun v8 W => ∃ k : Nat, k ≤ l.length ∧ v8 = .int .i64 k ∧ Aside0 ((l.take k).all okI = true) ∧ Aside0 (Below w.heap.size w W)) (fun v8 _ => l.length - (intOf v8).toNat)
  case atStart => exact ⟨0, Nat.zero_le _, rfl, ⟨rfl⟩, ⟨Below.refl _ _⟩⟩
  case round =>
    obtain ⟨k, hk, rfl, HA, HB⟩ := hrel
    by_cases hlt : k < l.length
    · obtain ⟨x, hx⟩ : ∃ x, l[k]? = some x := ⟨_, List.getElem?_eq_getElem hlt⟩
      obtain ⟨ad, rfl, h0, h1, h2⟩ := at_T44 (Kd.C_below HC.out HB.out) (k : Int) (by omega) (by omega)
      rw [rd44 hx, Int.toNat_natCast] at h0 h1 h2
      have HX := Aside0.mk hx
      clear hx
      cases hq : okI x with
      | true =>
        have HU : Aside0 ((l.take (k + 1)).all okI = true) := ⟨by rw [take_snoc HX.out, List.all_append, HA.out]; simp [hq]⟩
        have HQ := Aside0.mk hq
        clear hq
        go_wp2_with (go_at_call 40; refine (notInstr_calls x _).mono ?_; rintro e w' ⟨rfl, hb⟩; rw [HQ.out])
        go_roundw
        case rel => exact ⟨k + 1, hlt, by go_num, HU, ⟨HB.out.trans (hb.mono HB.out.size)⟩⟩
        case measure => simp [intOf]; omega
      | false =>
        have HQ := Aside0.mk hq
        clear hq
        go_wp2_with (go_at_call 40; refine (notInstr_calls x _).mono ?_; rintro e w' ⟨rfl, hb⟩; rw [HQ.out])
        go_ret
        refine ⟨k, rfl, ?_, HB.out.trans (hb.mono HB.out.size)⟩
        rw [decide_eq_true (by omega)]
        have : l.all okI = false := List.all_eq_false.mpr ⟨x, List.mem_of_getElem? HX.out, by rw [HQ.out]; simp⟩
        rw [this]; rfl
    · go_wp2
      go_ret
      obtain rfl : k = l.length := by omega
      exact ⟨-1, rfl, by rw [List.take_length] at HA; rw [HA.out]; rfl, HB.out⟩
theorem containsI_calls (A : Option Addr) (c : Nat) (l : List S44) (w : World) (hC : Kd.C k44 w A l.length l) (hl : l.length ≤ 100000) :
    Calls Try.prog 39 #[.slice A l.length c, .func (.func 40) #[] #[]] w fun e w' => e = .returned (.bool (!l.all okI)) ∧ Below w.heap.size w w' := by
  have HC := Aside0.mk hC
  clear hC
  go_enter Try.func39, Try.ntmps39
  go_wp2_with (go_at_call 61; refine (indexI_calls A c l _ HC.out hl).mono ?_; rintro e w' ⟨r, rfl, hr, hb⟩; have HR := Aside0.mk hr; clear hr)
  go_ret
  exact ⟨by rw [← HR.out]; rfl, hb⟩
set_option maxRecDepth 100000 in
set_option maxHeartbeats 4000000 in
theorem indexN_calls (A : Option Addr) (c : Nat) (l : List Int) (w : World) (hC : Kd.C (Kd.int .i64) w A l.length l) (hl : l.length ≤ 100000) :
    Calls Try.prog 62 #[.slice A l.length c, .func (.func 43) #[] #[]] w fun e w' => ∃ r : Int, e = .returned (.int .i64 r) ∧ (decide (0 ≤ r)) = !l.all smB ∧ w = w' := by
  have HC := Aside0.mk hC
  clear hC
  go_enter Try.func62, Try.ntmps62
  go_wp2
  go_loop [8] (fun v8 => ∃ k : Nat, k ≤ l.length ∧ v8 = .int .i64 k ∧ Aside0 ((l.take k).all smB = true)) (fun v8 => l.length - (intOf v8).toNat)
  case atStart => exact ⟨0, Nat.zero_le _, rfl, ⟨rfl⟩⟩
  case round =>
    obtain ⟨k, hk, rfl, HA⟩ := hrel
    by_cases hlt : k < l.length
    · obtain ⟨x, hx⟩ : ∃ x, l[k]? = some x := ⟨_, List.getElem?_eq_getElem hlt⟩
      obtain ⟨ad, rfl, h0⟩ := Kd.at_int HC.out (k : Int) (by omega) (by omega)
      rw [rdI hx, Int.toNat_natCast] at h0
      have HX := Aside0.mk hx
      clear hx
      cases hq : smB x with
      | true =>
        have HU : Aside0 ((l.take (k + 1)).all smB = true) := ⟨by rw [take_snoc HX.out, List.all_append, HA.out]; simp [hq]⟩
        have HQ := Aside0.mk hq
        clear hq
        go_wp2_with (go_at_call 43; refine (notSmall_calls x _).mono ?_; rintro e w' ⟨rfl, rfl⟩; rw [HQ.out])
        go_round
        case rel => exact ⟨k + 1, hlt, by go_num, HU⟩
        case measure => simp [intOf]; omega
      | false =>
        have HQ := Aside0.mk hq
        clear hq
        go_wp2_with (go_at_call 43; refine (notSmall_calls x _).mono ?_; rintro e w' ⟨rfl, rfl⟩; rw [HQ.out])
        go_ret
        refine ⟨k, rfl, ?_, rfl⟩
        rw [decide_eq_true (by omega)]
        have : l.all smB = false := List.all_eq_false.mpr ⟨x, List.mem_of_getElem? HX.out, by rw [HQ.out]; simp⟩
        rw [this]; rfl
    · go_wp2
      go_ret
      obtain rfl : k = l.length := by omega
      exact ⟨-1, rfl, by rw [List.take_length] at HA; rw [HA.out]; rfl, rfl⟩
theorem containsN_calls (A : Option Addr) (c : Nat) (l : List Int) (w : World) (hC : Kd.C (Kd.int .i64) w A l.length l) (hl : l.length ≤ 100000) :
    Calls Try.prog 42 #[.slice A l.length c, .func (.func 43) #[] #[]] w fun e w' => e = .returned (.bool (!l.all smB)) ∧ w = w' := by
  have HC := Aside0.mk hC
  clear hC
  go_enter Try.func42, Try.ntmps42
  go_wp2_with (go_at_call 62; refine (indexN_calls A c l _ HC.out hl).mono ?_; rintro e w' ⟨r, rfl, hr, rfl⟩; have HR := Aside0.mk hr; clear hr)
  go_ret
  exact ⟨by rw [← HR.out]; rfl, rfl⟩
end Go.Proofs.Ythnimpbcfegmjaa.Own

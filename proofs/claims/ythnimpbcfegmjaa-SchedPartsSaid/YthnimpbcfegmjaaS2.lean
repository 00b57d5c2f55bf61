/-
  slices' Grow, Concat and Clip over whole numbers, and sched.Right, walked by hand.
-/
import Derived.Test.YthnimpbcfegmjaaS1
namespace Go.Proofs.Ythnimpbcfegmjaa.Own
open Go.RowKit Go.Proofs.YthnimpbcfegmjaaW.PrintWords Go.Proofs.YthnimpbcfegmjaaW.PrintLast Go.Proofs.YthnimpbcfegmjaaW.PrintMore Go.Proofs.Ythnimpbcfegmjaa.P Go.Proofs.Ythnimpbcfegmjaa.Model
set_option linter.unusedVariables false

def GrowP (w : World) (e : Ending) (w' : World) : Prop := ∃ v, e = .returned v ∧ RowI w' w.heap.size v [] ∧ Below w.heap.size w w'
set_option maxRecDepth 100000 in
set_option maxHeartbeats 4000000 in
theorem grow_calls (n : Nat) (w : World) (hn : n ≤ 100000) : Calls Try.prog 55 #[.slice none 0 0, .int .i64 n] w (GrowP w) := by
  by_cases h0 : n = 0
  · subst h0
    have d1 : decide ((0 : Nat) < 0) = false := rfl
    go_enter Try.func55, Try.ntmps55
    go_wp2
    go_ret
    exact ⟨_, rfl, World.ownsRow_nil _ _ _ _, Below.refl _ _⟩
  · obtain ⟨i0, hi, _, _, _⟩ := info_parts info3
    have h1 : (0 : Int) < (n : Int) := by omega
    have d1 : decide ((0 : Int) < (n : Int)) = true := decide_eq_true h1
    have d2 : decide (0 < n) = true := decide_eq_true (by omega)
    have hcut := cut_to (P := Try.prog) 23 3 .i64 Try.underlying23 hi none 0 0 (0 : Int) (by omega) (by omega) (Nat.le_refl _)
    go_enter Try.func55, Try.ntmps55
    go_wp2_with (at_builtin; refine hold ?_)
    refine ⟨?_⟩
    refine Kd.R_append_zeros (Kd.int .i64) (w0 := w) w.heap.size rfl _ _ 23 3 3 _ 8 rfl Try.underlying23 Try.underlying3 info3 rfl (by decide) (by decide) (.slice none 0 0) [] (0 : Int) (n : Int) (fun _ => True) rfl rfl rfl (fun _ _ => trivial) (Kd.R_nil _ _ _ _ _) (by omega) (Below.refl _ _) (Nat.le_refl _) (by simp; omega) ?_
    intro v1 w1 hr hb _ _
    obtain ⟨A, c, rfl⟩ := Kd.R_slice hr
    rw [List.nil_append, List.length_replicate, Int.toNat_natCast] at hr
    have ht := Kd.R_take (m := 0) hr (Nat.zero_le _)
    have hroom : n ≤ c := (Kd.R_reads' hr).2.1
    rw [List.nil_append, List.length_replicate, Int.toNat_natCast]
    have hcut2 := cut_to (P := Try.prog) 23 3 .i64 Try.underlying23 hi A n c (0 : Int) (by omega) (by omega) hroom
    have HP : Aside0 (GrowP w (.returned (.slice A 0 c)) w1) := ⟨⟨_, rfl, R_rowI (xs := []) ht, hb⟩⟩
    clear hr hb ht hroom
    go_wp2
    go_ret
    exact HP.out
def CatP (l : List (List Int)) (w : World) (e : Ending) (w' : World) : Prop := ∃ v, e = .returned v ∧ RowI w' w.heap.size v l.flatten ∧ Below w.heap.size w w'
theorem flatten_take_le (l : List (List Int)) (k : Nat) : (l.take k).flatten.length ≤ l.flatten.length := by
  have h := congrArg List.flatten (List.take_append_drop k l)
  rw [List.flatten_append] at h
  have h2 := congrArg List.length h
  rw [List.length_append] at h2
  omega
theorem flatten_snoc {l : List (List Int)} {k : Nat} {x : List Int} (h : l[k]? = some x) : (l.take (k + 1)).flatten = (l.take k).flatten ++ x := by rw [take_snoc h]; simp
theorem rdL {l : List (List Int)} {i : Nat} {x : List Int} (h : l[i]? = some x) : rd_L3 l (i : Int) = x := by unfold rd_L3; rw [Int.toNat_natCast, List.getD_eq_getElem?_getD, h]; rfl
set_option maxRecDepth 100000 in
set_option maxHeartbeats 4000000 in
theorem concat_calls (A : Option Addr) (c : Nat) (l : List (List Int)) (w : World) (hC : CR w A l) (hm : l.flatten.length ≤ 1000) (hl : l.length ≤ 1000) : Calls Try.prog 29 #[.slice A l.length c] w (CatP l w) := by
  have HC := Aside0.mk hC
  have HM := Aside0.mk hm
  clear hC hm
  go_enter Try.func29, Try.ntmps29
  go_wp2
  go_loop [3, 11] (fun v3 v11 => ∃ (k n : Nat), k ≤ l.length ∧ n ≤ 1000 ∧ v11 = .int .i64 k ∧ v3 = .int .i64 n ∧ Aside0 (n = (l.take k).flatten.length)) (fun _ v11 => l.length - (intOf v11).toNat)
  case atStart => exact ⟨0, 0, Nat.zero_le _, by omega, rfl, rfl, ⟨rfl⟩⟩
  case round => as_aux_lemma =>
    obtain ⟨k, n, hk, hn, rfl, rfl, HN⟩ := hrel
    by_cases hlt : k < l.length
    · obtain ⟨x, hx⟩ : ∃ x, l[k]? = some x := ⟨_, List.getElem?_eq_getElem hlt⟩
      obtain ⟨ad, A1, c1, rfl, h1, _, _⟩ := at_L3 HC.out (k : Int) (by omega) (by omega)
      rw [rdL hx, Int.toNat_natCast] at h1
      have hs := flatten_snoc hx
      have hle := flatten_take_le l (k + 1)
      rw [hs, List.length_append] at hle
      have hx1 : n + x.length ≤ 1000 := by have := HM.out; have := HN.out; omega
      have dn : decide ((n : Int) + (x.length : Int) < 0) = false := decide_eq_false (by omega)
      have HS := Aside0.mk hs
      clear hs hle hx
      go_wp2
      go_round
      case rel => exact ⟨k + 1, n + x.length, hlt, hx1, by go_num, by go_num, ⟨by rw [HS.out, List.length_append, HN.out]⟩⟩
      case measure => simp [intOf]; omega
    · obtain rfl : k = l.length := by omega
      clear HN
      go_wp2_with (go_at_call 55; refine (grow_calls n _ (by omega)).mono ?_; rintro e w1 ⟨v, rfl, hr, hb⟩; have HR := Aside0.mk hr; have HB := Aside0.mk hb; clear hr hb)
      go_loopw [6, 27] (fun v6 v27 W => ∃ k : Nat, k ≤ l.length ∧ v27 = .int .i64 k ∧ Aside0 (RowI W w.heap.size v6 (l.take k).flatten) ∧ Aside0 (Below w.heap.size w W)) (fun _ v27 _ => l.length - (intOf v27).toNat)
      case atStart => exact ⟨0, Nat.zero_le _, rfl, HR, HB⟩
      case round =>
        clear HR HB
        obtain ⟨k, hk, rfl, HR, HB⟩ := hrel
        by_cases hlt2 : k < l.length
        · obtain ⟨x, hx⟩ : ∃ x, l[k]? = some x := ⟨_, List.getElem?_eq_getElem hlt2⟩
          obtain ⟨ad, A1, c1, rfl, h1, h2, h3⟩ := at_L3 (Kd.C_below HC.out HB.out) (k : Int) (by omega) (by omega)
          rw [rdL hx] at h1 h2 h3
          rw [Int.toNat_natCast] at h1
          have HX := Aside0.mk h3
          have HS := Aside0.mk (flatten_snoc hx)
          have hle := flatten_take_le l (k + 1)
          rw [HS.out, List.length_append] at hle
          have hle2 : (l.take k).flatten.length + x.length ≤ 1000000 := by have := HM.out; omega
          have HLE := Aside0.mk hle2
          clear h3 hx hle hle2
          go_wp2_with (at_builtin; refine hold ?_)
          refine ⟨?_⟩
          refine app_ints rfl _ _ rfl w w.heap.size _ _ x A1 x.length c1 rfl rfl HR.out HX.out HB.out HB.out.size HLE.out ?_
          intro v1 w2 hr hb _ _
          rw [← HS.out] at hr
          have HR2 := Aside0.mk hr
          have HB2 := Aside0.mk hb
          clear hr hb
          go_wp2
          go_roundw
          case rel => exact ⟨k + 1, hlt2, by go_num, HR2, HB2⟩
          case measure => simp [intOf]; omega
        · obtain rfl : k = l.length := by omega
          go_wp2
          go_ret
          exact ⟨_, rfl, by rw [← List.take_length (l := l)]; exact HR.out, HB.out⟩
theorem clip_calls (A : Option Addr) (n c : Nat) (w : World) (hn : n ≤ c) (hm : n ≤ 100000) : Calls Try.prog 70 #[.slice A n c] w fun e w' => e = .returned (.slice A n n) ∧ w = w' := by
  go_enter Try.func70, Try.ntmps70
  go_wp2
  go_ret
  exact ⟨rfl, rfl⟩
end Go.Proofs.Ythnimpbcfegmjaa.Own

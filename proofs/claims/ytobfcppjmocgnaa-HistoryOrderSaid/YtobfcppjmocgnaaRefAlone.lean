/-
  The reference's Alone, walked by hand.
-/
import Derived.Test.YtobfcppjmocgnaaOpen
import Derived.IntWalk
namespace Go.Proofs.Ytobfcppjmocgnaa.Own
open Go.RowKit Go.Shelf Go.Proofs.YtobfcppjmocgnaaW.PrintWords Go.Proofs.YtobfcppjmocgnaaW.PrintLast Go.Proofs.Ytobfcppjmocgnaa.P
set_option linter.unusedVariables false

/-- A call that begins, and what is behind it is not its end. -/
def badA (l : List S53) (k : Nat) : Bool := (l.getD k z53).f1 == 0 && (decide (k + 1 < l.length) && ((l.getD (k + 1) z53).f0 != (l.getD k z53).f0 || (l.getD (k + 1) z53).f1 != 1))
theorem getD_of {l : List S53} {k : Nat} {x : S53} (h : l[k]? = some x) : l.getD k z53 = x := by rw [List.getD_eq_getElem?_getD, h]; rfl
set_option maxRecDepth 100000 in
set_option maxHeartbeats 16000000 in
theorem refAlone_calls (A : Option Addr) (c : Nat) (l : List S53) (hd : Nat → Option Addr × Nat) (w : World) (hE : Evs w A l hd) (hl : l.length ≤ 50) :
    Calls Try.prog 18 #[.slice A l.length c] w fun e w' => e = .returned (.bool (!(List.range l.length).any (badA l))) ∧ Below w.heap.size w w' := by
  have HE := Aside0.mk hE
  clear hE
  go_enter Try.func18, Try.ntmps18
  go_wp2
  go_loopw [7] (fun v7 W => ∃ k : Nat, k ≤ l.length ∧ v7 = .int .i64 k ∧ Aside0 ((List.range k).any (badA l) = false) ∧ Aside0 (Below w.heap.size w W)) (fun v7 _ => l.length - (intOf v7).toNat)
  case atStart => exact ⟨0, Nat.zero_le _, rfl, ⟨rfl⟩, ⟨Below.refl _ _⟩⟩
  case round =>
    obtain ⟨k, hk, rfl, HA, HB⟩ := hrel
    by_cases hlt : k < l.length
    · obtain ⟨x, hx⟩ : ∃ x, l[k]? = some x := ⟨_, List.getElem?_eq_getElem hlt⟩
      obtain ⟨ad, rfl, ⟨e0, e1, e2, e3, e4, e5, e6, e7, e8, e9, e10, e11, e12⟩, -, -⟩ := (HE.out.below HB.out) k x hx
      have hs : (List.range (k + 1)).any (badA l) = badA l k := by rw [List.range_succ, List.any_append, HA.out]; simp
      have hv : badA l k = (x.f1 == 0 && (decide (k + 1 < l.length) && ((l.getD (k + 1) z53).f0 != x.f0 || (l.getD (k + 1) z53).f1 != 1))) := by unfold badA; rw [getD_of hx]
      rw [hv] at hs
      have hall : badA l k = true → (!(List.range l.length).any (badA l)) = false := fun h => by
        rw [List.any_eq_true.mpr ⟨k, List.mem_range.mpr hlt, h⟩]; rfl
      rw [hv] at hall
      have HB1 : Aside0 (Below w.heap.size w (wr.alloc (.cells (evc x (hd k).1 (hd k).2) 53))) := ⟨HB.out.alloc HB.out.size _⟩
      have HS := Aside0.mk hs
      have HALL := Aside0.mk hall
      clear hs hv hall hx
      have q1 : IntKind.i64.wrap ((k : Int) + 1) = (k : Int) + 1 := IntWalk.i64_in _ (by omega)
      have q2 : 0 ≤ (k : Int) + 1 := by omega
      have q3 : ((k : Int) + 1).toNat = k + 1 := by omega
      by_cases hb : x.f1 = 0
      · have hb2 : (x.f1 == 0) = true := by simp [hb]
        clear hb
        by_cases hn : k + 1 < l.length
        · obtain ⟨y, hy⟩ : ∃ y, l[k + 1]? = some y := ⟨_, List.getElem?_eq_getElem hn⟩
          obtain ⟨ad', hA, ⟨g0, g1, g2, g3, g4, g5, g6, g7, g8, g9, g10, g11, g12⟩, -, -⟩ := (HE.out.below HB.out) (k + 1) y hy
          cases hA
          have hyd := getD_of hy
          rw [hyd] at HS HALL
          have hbl : (ad.add ((k + 1) * 13)).block < wr.heap.size := World.block_lt_of_cell? _ _ g0
          have hn1 : decide (((k : Int) + 1) < (l.length : Int)) = true := decide_eq_true (by omega)
          clear hy hyd
          by_cases h1 : y.f0 = x.f0
          · have h2 : (y.f0 == x.f0) = true := by simp [h1]
            have h3 : (y.f0 != x.f0) = false := by simp [h1]
            clear h1
            by_cases h4 : y.f1 = 1
            · have h5 : (y.f1 == 1) = true := by simp [h4]
              have h6 : (y.f1 != 1) = false := by simp [h4]
              clear h4
              have HS2 : Aside0 ((List.range (k + 1)).any (badA l) = false) := ⟨by rw [HS.out, h3, h6]; simp⟩
              go_wp2
              repeat (go_quiet (fail); try go_wp2)
              go_roundw
              case rel => exact ⟨k + 1, hlt, by go_num, HS2, ⟨pw_below_drewN HB1.out _⟩⟩
              case measure => simp [intOf]; omega
            · have h5 : (y.f1 == 1) = false := by simp [h4]
              have h6 : (y.f1 != 1) = true := by simp [h4]
              clear h4
              have HS2 : Aside0 ((!(List.range l.length).any (badA l)) = false) := ⟨HALL.out (by rw [hb2, h3, h6, decide_eq_true hn]; rfl)⟩
              go_wp2
              repeat (go_quiet (fail); try go_wp2)
              go_ret
              exact ⟨by rw [HS2.out]; rfl, pw_below_drewN HB1.out _⟩
          · have h2 : (y.f0 == x.f0) = false := by simp [h1]
            have h3 : (y.f0 != x.f0) = true := by simp [h1]
            clear h1
            have HS2 : Aside0 ((!(List.range l.length).any (badA l)) = false) := ⟨HALL.out (by rw [hb2, h3, decide_eq_true hn]; rfl)⟩
            go_wp2
            repeat (go_quiet (fail); try go_wp2)
            go_ret
            exact ⟨by rw [HS2.out]; rfl, pw_below_drewN HB1.out _⟩
        · have hn1 : decide (((k : Int) + 1) < (l.length : Int)) = false := decide_eq_false (by omega)
          have HS2 : Aside0 ((List.range (k + 1)).any (badA l) = false) := ⟨by rw [HS.out, decide_eq_false hn]; simp⟩
          go_wp2
          repeat (go_quiet (fail); try go_wp2)
          go_roundw
          case rel => exact ⟨k + 1, hlt, by go_num, HS2, ⟨pw_below_drewN HB1.out _⟩⟩
          case measure => simp [intOf]; omega
      · have hb2 : (x.f1 == 0) = false := by simp [hb]
        have HS2 : Aside0 ((List.range (k + 1)).any (badA l) = false) := ⟨by rw [HS.out, hb2]; rfl⟩
        clear hb
        go_wp2
        repeat (go_quiet (fail); try go_wp2)
        go_roundw
        case rel => exact ⟨k + 1, hlt, by go_num, HS2, ⟨pw_below_drewN HB1.out _⟩⟩
        case measure => simp [intOf]; omega
    · obtain rfl : k = l.length := by omega
      go_wp2
      go_ret
      exact ⟨by rw [HA.out]; rfl, HB.out⟩
end Go.Proofs.Ytobfcppjmocgnaa.Own

/-
  downpourlaw22.few and alive, walked by hand.
-/
import Derived.Test.YtobfcppjmocgnaaSame
namespace Go.Proofs.Ytobfcppjmocgnaa.Own
open Go.RowKit Go.Shelf Go.Proofs.YtobfcppjmocgnaaW.PrintWords Go.Proofs.YtobfcppjmocgnaaW.PrintLast Go.Proofs.Ytobfcppjmocgnaa.P
set_option linter.unusedVariables false

set_option maxRecDepth 100000 in
set_option maxHeartbeats 4000000 in
theorem few_calls (A : Option Addr) (n c : Nat) (w : World) (hn : n ≤ c) (hm : n ≤ 9223372036854775807) :
    Calls Try.prog 7 #[.slice A n c] w fun e w' => e = .returned (.slice A (min n 50) c) ∧ w' = w := by
  obtain ⟨i0, hi, _, hz1, _⟩ := info_parts info53
  by_cases h : n ≤ 50
  · have hcut := cut_to (P := Try.prog) 22 53 .i64 Try.underlying22 hi A n c (n : Int) (by omega) (by omega) hn
    rw [Nat.min_eq_left h]
    go_enter Try.func7, Try.ntmps7
    go_wp2
    go_ret
    exact ⟨rfl, rfl⟩
  · have hcut := cut_to (P := Try.prog) 22 53 .i64 Try.underlying22 hi A n c (50 : Int) (by omega) (by omega) hn
    rw [Nat.min_eq_right (by omega)]
    go_enter Try.func7, Try.ntmps7
    go_wp2
    go_ret
    exact ⟨rfl, rfl⟩

/-- alive's events. -/
def al3 : List S53 := [⟨0, 0, 0, z36, z39⟩, ⟨1, 0, 0, z36, z39⟩, ⟨0, 1, 0, z36, z39⟩]
def hd0 : Nat → Option Addr × Nat := fun _ => (none, 0)
theorem evs_al3 {W : World} {g : Nat} (h : W.heap[g]? = some (.cells (#[.int .i64 0, .int .i64 0, .int .i64 0, .int .i64 0, .int .u64 0, .int .i64 0, .int .i64 0, .int .i64 0, .int .u64 0, .string ⟨#[]⟩, .int .i64 0, .int .i64 0, .slice none 0 0, .int .i64 1, .int .i64 0, .int .i64 0, .int .i64 0, .int .u64 0, .int .i64 0, .int .i64 0, .int .i64 0, .int .u64 0, .string ⟨#[]⟩, .int .i64 0, .int .i64 0, .slice none 0 0, .int .i64 0, .int .i64 1, .int .i64 0, .int .i64 0, .int .u64 0, .int .i64 0, .int .i64 0, .int .i64 0, .int .u64 0, .string ⟨#[]⟩, .int .i64 0, .int .i64 0, .slice none 0 0]) 53 (0, 0))) : Evs W (some ⟨g, 0, none⟩) al3 hd0 := by
  intro k x hx
  refine ⟨⟨g, 0, none⟩, rfl, ?_⟩
  rw [add_plain]
  match k, hx with
  | 0, rfl => exact ⟨⟨blk_cell h 0, blk_cell h 1, blk_cell h 2, blk_cell h 3, blk_cell h 4, blk_cell h 5, blk_cell h 6, blk_cell h 7, blk_cell h 8, blk_cell h 9, blk_cell h 10, blk_cell h 11, blk_cell h 12⟩, Nat.le_refl _, Kd.C_nil Kd.string W⟩
  | 1, rfl => exact ⟨⟨blk_cell h 13, blk_cell h 14, blk_cell h 15, blk_cell h 16, blk_cell h 17, blk_cell h 18, blk_cell h 19, blk_cell h 20, blk_cell h 21, blk_cell h 22, blk_cell h 23, blk_cell h 24, blk_cell h 25⟩, Nat.le_refl _, Kd.C_nil Kd.string W⟩
  | 2, rfl => exact ⟨⟨blk_cell h 26, blk_cell h 27, blk_cell h 28, blk_cell h 29, blk_cell h 30, blk_cell h 31, blk_cell h 32, blk_cell h 33, blk_cell h 34, blk_cell h 35, blk_cell h 36, blk_cell h 37, blk_cell h 38⟩, Nat.le_refl _, Kd.C_nil Kd.string W⟩
  | k + 3, hx => simp [al3] at hx
/-- Cells that read as events. -/
theorem C_of_evs {w : World} {A : Option Addr} {l : List S53} {hd : Nat → Option Addr × Nat} (h : Evs w A l hd) (hl : l.length ≤ 9223372036854775807) : Kd.C k53 w A l.length l := by
  refine ⟨rfl, hl, fun h0 => ?_⟩
  obtain ⟨x0, hx0⟩ : ∃ x, l[0]? = some x := ⟨_, List.getElem?_eq_getElem h0⟩
  obtain ⟨ad, hA, -⟩ := h 0 x0 hx0
  refine ⟨ad, hA, fun j p hp => ?_⟩
  obtain ⟨ad', hA', ⟨c0, c1, c2, c3, c4, c5, c6, c7, c8, c9, c10, c11, c12⟩, hle, hC⟩ := h j p hp
  rw [hA] at hA'
  cases hA'
  refine ⟨(evc p (hd j).1 (hd j).2).toList, rfl, k53_mk w p hle hC, fun i u hu => ?_⟩
  have key : w.cell? (ad.add (j * 13 + i)) = (evc p (hd j).1 (hd j).2).toList[i]? := by
    match i with
    | 0 => exact c0
    | 1 => rw [add_field _ _ 1 (by omega)]; exact c1
    | 2 => rw [add_field _ _ 2 (by omega)]; exact c2
    | 3 => rw [add_field _ _ 3 (by omega)]; exact c3
    | 4 => rw [add_field _ _ 4 (by omega)]; exact c4
    | 5 => rw [add_field _ _ 5 (by omega)]; exact c5
    | 6 => rw [add_field _ _ 6 (by omega)]; exact c6
    | 7 => rw [add_field _ _ 7 (by omega)]; exact c7
    | 8 => rw [add_field _ _ 8 (by omega)]; exact c8
    | 9 => rw [add_field _ _ 9 (by omega)]; exact c9
    | 10 => rw [add_field _ _ 10 (by omega)]; exact c10
    | 11 => rw [add_field _ _ 11 (by omega)]; exact c11
    | 12 => rw [add_field _ _ 12 (by omega)]; exact c12
    | i + 13 => simp [evc] at hu
  exact key.trans hu
theorem al3_ok : okH al3 = true := by decide +kernel
theorem al3_len : (spTo al3 hd0 3).length = 2 := by decide +kernel
theorem al3_0 : ((spTo al3 hd0 3)[0]?).map (fun p => p.1.f5) = some 2 := by decide +kernel
theorem al3_1 : ((spTo al3 hd0 3)[1]?).map (fun p => p.1.f5) = some (-1) := by decide +kernel

theorem al3_told (W : World) (A : Option Addr) (he : Evs W A al3 hd0) : Calls Try.prog 8 #[.slice A 3 3] W fun e w' => ∃ (ad : Addr) (d : Nat), e = .returned (.tuple #[.slice (some ad) 2 d, .int .i64 0]) ∧
    w'.cell? ⟨ad.block, ad.off + 13, none⟩ = some (.int .i64 2) ∧ w'.cell? ⟨ad.block, ad.off + 14 + 13, none⟩ = some (.int .i64 (-1)) ∧ Below W.heap.size W w' := by
  refine (spans_told A 3 al3 hd0 W (C_of_evs he (by decide)) he (by decide) (spTo al3 hd0 3) (by rw [al3_ok]; rfl)).mono ?_
  rintro e w' ⟨B, d, rfl, hs, hb⟩
  obtain ⟨p0, h0, e0⟩ := Option.map_eq_some_iff.mp al3_0
  obtain ⟨p1, h1, e1⟩ := Option.map_eq_some_iff.mp al3_1
  obtain ⟨ad, rfl, ⟨-, -, -, -, -, -, -, -, -, -, -, -, -, c0⟩, -⟩ := hs 0 p0 h0
  obtain ⟨ad', hA, ⟨-, -, -, -, -, -, -, -, -, -, -, -, -, c1⟩, -⟩ := hs 1 p1 h1
  cases hA
  rw [e0, show ad.add (0 * 14) = ad by unfold Addr.add; simp] at c0
  rw [e1, show ad.add (1 * 14) = ⟨ad.block, ad.off + 14, none⟩ by unfold Addr.add; simp] at c1
  exact ⟨ad, d, by rw [al3_len, al3_ok]; rfl, c0, c1, hb⟩
set_option maxRecDepth 100000 in
set_option maxHeartbeats 4000000 in
theorem alive_calls (w : World) : Calls Try.prog 11 #[] w fun e w' => e = .returned (.bool true) ∧ Below w.heap.size w w' := by
  go_enter Try.func11, Try.ntmps11
  go_wp2_with (go_at_call 8; refine (al3_told _ _ (evs_al3 (blk_new w _))).mono ?_; rintro e w' ⟨ad, d, rfl, c0, c1, hb⟩)
  go_ret
  exact ⟨rfl, (((Below.refl _ w).alloc (Nat.le_refl _) _).trans (hb.mono (by simp)))⟩
end Go.Proofs.Ytobfcppjmocgnaa.Own

/-
  The spans of a history that is cut.
-/
import Derived.Test.YtobfcppjmocgnaaPureTells
namespace Go.Proofs.Ytobfcppjmocgnaa.Own
open Go.RowKit Go.Shelf Go.Proofs.YtobfcppjmocgnaaW.PrintWords Go.Proofs.YtobfcppjmocgnaaW.PrintLast Go.Proofs.Ytobfcppjmocgnaa.P
set_option linter.unusedVariables false

theorem Evs.cut {w : World} {A : Option Addr} {l : List S53} {hd : Nat → Option Addr × Nat} (h : Evs w A l hd) (k : Nat) : Evs w A (l.take k) hd := by
  intro j x hx
  refine h j x ?_
  rw [List.getElem?_take] at hx
  split at hx
  · exact hx
  · cases hx
theorem getD_take (l : List S53) (k j : Nat) (hj : j < k) : (l.take k).getD j z53 = l.getD j z53 := by
  rw [List.getD_eq_getElem?_getD, List.getD_eq_getElem?_getD, List.getElem?_take, if_pos hj]
theorem pf_take (l : List S53) (c : Int) (k j : Nat) (hj : j ≤ k) : pf (l.take k) c j = pf l c j := by
  unfold pf; rw [List.take_take, Nat.min_eq_left hj]
theorem good_take (l : List S53) (k j : Nat) (hj : j < k) : good (l.take k) j ↔ good l j := by
  unfold good
  rw [getD_take l k j hj, pf_take l _ k j (by omega)]
theorem okH_take (l : List S53) (k : Nat) (hk : k ≤ l.length) (h : okH l = true) : okH (l.take k) = true := by
  obtain ⟨h1, h2⟩ := (okH_good l).mp h
  have hl : (l.take k).length = k := by rw [List.length_take]; omega
  exact (okH_good _).mpr ⟨fun j hj => (good_take l k j (by omega)).mpr (h1 j (by omega)), by omega⟩
/-- What a cut leaves of a next event. -/
def cutE (k : Nat) : Option E → Option E
  | some y => if y.1 < k then some y else none
  | none => none
theorem from_cut (l : List S53) (hd : Nat → Option Addr × Nat) (k : Nat) (hk : k ≤ l.length) (cl : Int) (d : Nat) : ∀ m, m + d = k → fromE (l.take k) hd m cl = cutE k (fromE l hd m cl) := by
  have hl : (l.take k).length = k := by rw [List.length_take]; omega
  induction d with
  | zero =>
    intro m hm
    obtain rfl : m = k := by omega
    have h1 := from_end (l.take m) hd cl
    rw [hl] at h1
    rw [h1]
    cases hf : fromE l hd m cl with
    | none => rfl
    | some y =>
      have := from_ge hf
      simp only [cutE]
      rw [if_neg (by omega)]
  | succ d ih =>
    intro m hm
    have hx : l[m]? = some (l.getD m z53) := by rw [List.getD_eq_getElem?_getD, List.getElem?_eq_getElem (show m < l.length by omega)]; rfl
    have hx2 : (l.take k)[m]? = some (l.getD m z53) := by rw [List.getElem?_take, if_pos (by omega)]; exact hx
    rw [from_step hx, from_step hx2]
    split
    · simp only [cutE]; rw [if_pos (by omega)]
    · exact ih (m + 1) (by omega)
/-- A span, and what it is behind a cut. -/
def CutRel (k : Nat) (a b : SP) : Prop := a.1.f0 = b.1.f0 ∧ a.1.f1 = b.1.f1 ∧ a.1.f2 = b.1.f2 ∧ a.1.f4 = b.1.f4 ∧ (a.1.f5 = b.1.f5 ∨ (a.1.f5 = -1 ∧ (k : Int) ≤ b.1.f5))
theorem cut_rel (x : S53) (k j : Nat) (o : Option E) : CutRel k (spanV x j (cutE k o), hdV (cutE k o)) (spanV x j o, hdV o) := by
  cases o with
  | none => exact ⟨rfl, rfl, rfl, rfl, .inl rfl⟩
  | some y =>
    simp only [cutE]
    split
    · exact ⟨rfl, rfl, rfl, rfl, .inl rfl⟩
    · exact ⟨rfl, rfl, rfl, rfl, .inr ⟨rfl, by simp only [spanV]; omega⟩⟩
theorem cut_spans (l : List S53) (hd : Nat → Option Addr × Nat) (k : Nat) (hk : k ≤ l.length) : ∀ j, j ≤ k → (spTo (l.take k) hd j).length = (spTo l hd j).length ∧ ∀ (i : Nat) (a : SP), (spTo (l.take k) hd j)[i]? = some a → ∃ b, (spTo l hd j)[i]? = some b ∧ CutRel k a b := by
  intro j
  induction j with
  | zero => intro _; exact ⟨rfl, fun i a h => by simp [spTo] at h⟩
  | succ j ih =>
    intro hj
    obtain ⟨h1, h2⟩ := ih (by omega)
    have hx : l[j]? = some (l.getD j z53) := by rw [List.getD_eq_getElem?_getD, List.getElem?_eq_getElem (show j < l.length by omega)]; rfl
    have hx2 : (l.take k)[j]? = some (l.getD j z53) := by rw [List.getElem?_take, if_pos (by omega)]; exact hx
    rw [spTo_succ hx, spTo_succ hx2]
    unfold spOf
    by_cases h0 : (l.getD j z53).f1 = 0
    · rw [if_pos h0, if_pos h0]
      refine ⟨by simp [h1], fun i a ha => ?_⟩
      rcases Nat.lt_or_ge i (spTo (l.take k) hd j).length with hi | hi
      · rw [List.getElem?_append_left hi] at ha
        rw [List.getElem?_append_left (by omega)]
        exact h2 i a ha
      · rw [List.getElem?_append_right hi] at ha
        rw [List.getElem?_append_right (by omega), ← h1]
        have e : i - (spTo (l.take k) hd j).length = 0 := by
          rcases Nat.eq_zero_or_pos (i - (spTo (l.take k) hd j).length) with h | h
          · exact h
          · rw [List.getElem?_eq_none (by simp; omega)] at ha; cases ha
        rw [e] at ha ⊢
        simp only [List.getElem?_cons_zero, Option.some.injEq] at ha
        refine ⟨_, rfl, ?_⟩
        subst ha
        have : nextE (l.take k) hd j (l.getD j z53) = cutE k (nextE l hd j (l.getD j z53)) := from_cut l hd k hk _ (k - (j + 1)) (j + 1) (by omega)
        rw [this]
        exact cut_rel _ _ _ _
    · rw [if_neg h0, if_neg h0]
      rw [List.append_nil, List.append_nil]; exact ⟨h1, h2⟩
theorem spTo_rest (l : List S53) (hd : Nat → Option Addr × Nat) (k : Nat) (d : Nat) : k + d ≤ l.length → ∃ r, spTo l hd (k + d) = spTo l hd k ++ r ∧ ∀ p ∈ r, (k : Int) ≤ p.1.f4 := by
  induction d with
  | zero => intro _; exact ⟨[], by simp, fun p hp => by cases hp⟩
  | succ d ih =>
    intro hd'
    obtain ⟨r, h1, h2⟩ := ih (by omega)
    have hx : l[k + d]? = some (l.getD (k + d) z53) := by rw [List.getD_eq_getElem?_getD, List.getElem?_eq_getElem (show k + d < l.length by omega)]; rfl
    refine ⟨r ++ spOf l hd (k + d) (l.getD (k + d) z53), by rw [← Nat.add_assoc, spTo_succ hx, h1, List.append_assoc], fun p hp => ?_⟩
    rcases List.mem_append.mp hp with hp | hp
    · exact h2 p hp
    · unfold spOf at hp
      split at hp
      · simp only [List.mem_singleton] at hp
        subst hp
        simp only [spanV_f4]
        omega
      · cases hp
/-- The cut's spans are the first ones of the whole, but that some have not ended. -/
theorem cut_told (l : List S53) (hd : Nat → Option Addr × Nat) (k : Nat) (hk : k ≤ l.length) :
    (spTo (l.take k) hd k).length ≤ (spTo l hd l.length).length ∧ (∀ (i : Nat) (a : SP), (spTo (l.take k) hd k)[i]? = some a → ∃ b, (spTo l hd l.length)[i]? = some b ∧ CutRel k a b) ∧
    (∀ b, (spTo l hd l.length)[(spTo (l.take k) hd k).length]? = some b → (k : Int) ≤ b.1.f4) := by
  obtain ⟨h1, h2⟩ := cut_spans l hd k hk k (Nat.le_refl _)
  obtain ⟨r, h3, h4⟩ := spTo_rest l hd k (l.length - k) (by omega)
  rw [show k + (l.length - k) = l.length by omega] at h3
  rw [h3, h1]
  refine ⟨by simp, fun i a ha => ?_, fun b hb => ?_⟩
  · obtain ⟨b, hb, hr⟩ := h2 i a ha
    exact ⟨b, by rw [List.getElem?_append_left (List.getElem?_eq_some_iff.mp hb).1]; exact hb, hr⟩
  · rw [List.getElem?_append_right (Nat.le_refl _), Nat.sub_self] at hb
    exact h4 b (List.mem_of_getElem? hb)
end Go.Proofs.Ytobfcppjmocgnaa.Own

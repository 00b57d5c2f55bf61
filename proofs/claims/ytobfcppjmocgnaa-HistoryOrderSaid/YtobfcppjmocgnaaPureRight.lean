/-
  What the reference says of a history's being one is what the code says.
-/
import Derived.Test.YtobfcppjmocgnaaFew
import Derived.Test.YtobfcppjmocgnaaPx3
namespace Go.Proofs.Ytobfcppjmocgnaa.Own
open Go.RowKit Go.Shelf Go.Proofs.YtobfcppjmocgnaaW.PrintWords Go.Proofs.YtobfcppjmocgnaaW.PrintLast Go.Proofs.Ytobfcppjmocgnaa.P
set_option linter.unusedVariables false

/-- A client's events ahead of a place. -/
def pf (l : List S53) (c : Int) (i : Nat) : List S53 := (l.take i).filter (fun x => x.f0 == c)
theorem pf_succ (l : List S53) (c : Int) (i : Nat) (hi : i < l.length) : pf l c (i + 1) = if (l.getD i z53).f0 = c then pf l c i ++ [l.getD i z53] else pf l c i := by
  unfold pf
  rw [take_snoc (List.getElem?_eq_getElem hi), List.filter_append, List.filter_cons, List.getD_eq_getElem?_getD, List.getElem?_eq_getElem hi]
  simp only [Option.getD_some, beq_iff_eq, List.filter_nil]
  split <;> simp
theorem pf_le (l : List S53) (c : Int) (i : Nat) : (pf l c i).length ≤ i := by
  unfold pf
  exact Nat.le_trans (List.length_filter_le _ _) (by rw [List.length_take]; omega)
/-- The last one's place. -/
def lastI (l : List S53) (c : Int) : Nat → Int
  | 0 => -1
  | i + 1 => if (l.getD i z53).f0 = c then (i : Int) else lastI l c i
theorem last_spec (l : List S53) (c : Int) (i : Nat) (hi : i ≤ l.length) (h : 0 < (pf l c i).length) : ∃ j : Nat, lastI l c i = j ∧ j < i ∧ lastOf z53 (pf l c i) = l.getD j z53 := by
  induction i with
  | zero => simp [pf] at h
  | succ i ih =>
    rw [pf_succ l c i (by omega)] at h ⊢
    simp only [lastI]
    by_cases hc : (l.getD i z53).f0 = c
    · rw [if_pos hc, if_pos hc]
      exact ⟨i, rfl, by omega, by simp [lastOf]⟩
    · rw [if_neg hc] at h ⊢
      rw [if_neg hc]
      obtain ⟨j, h1, h2, h3⟩ := ih (by omega) h
      exact ⟨j, h1, by omega, h3⟩
theorem rd53_nat (l : List S53) (i : Nat) : rd_T53 l (i : Int) = l.getD i z53 := rfl
theorem wrap_s (i : Nat) (h : i ≤ 1000) : wrap64 ((i : Int) + 1) = ((i + 1 : Nat) : Int) := by unfold wrap64; omega
theorem count_l0 (l : List S53) (hl : l.length ≤ 50) (at_ : Nat) (ha : at_ < l.length) (c : Int) (hc : (l.getD at_ z53).f0 = c) (d : Nat) : ∀ (k j : Nat), j + d = at_ → d < k →
    downpourref22_count.l0 k l at_ j ((pf l c j).length : Int) (lastI l c j) = some (((pf l c at_).length : Int), lastI l c at_) := by
  induction d with
  | zero =>
    intro k j hj hk
    obtain ⟨k, rfl⟩ : ∃ m, k = m + 1 := ⟨k - 1, by omega⟩
    obtain rfl : j = at_ := by omega
    simp only [downpourref22_count.l0]
    rw [if_neg (by omega)]
  | succ d ih =>
    intro k j hj hk
    obtain ⟨k, rfl⟩ : ∃ m, k = m + 1 := ⟨k - 1, by omega⟩
    have h := ih k (j + 1) (by omega) (by omega)
    have hp := pf_le l c j
    have e1 := wrap_s j (by omega)
    have e2 := wrap_s (pf l c j).length (by omega)
    simp only [downpourref22_count.l0]
    rw [rd53_nat, rd53_nat, hc, e1, e2]
    clear e1 e2
    rw [if_pos (by omega), if_pos (by omega), if_pos (by omega), if_pos (by omega), if_pos (by omega)]
    rw [pf_succ l c j (by omega)] at h
    simp only [lastI] at h
    by_cases hq : (l.getD j z53).f0 = c
    · rw [if_pos hq]
      rw [if_pos hq, if_pos hq, List.length_append, List.length_singleton] at h
      exact h
    · rw [if_neg hq]
      rw [if_neg hq, if_neg hq] at h
      exact h
theorem count_f (l : List S53) (hl : l.length ≤ 50) (i : Nat) (hi : i < l.length) (k : Nat) (hk : i < k) :
    downpourref22_count.f k l i = some (((pf l (l.getD i z53).f0 i).length : Int), lastI l (l.getD i z53).f0 i) := by
  unfold downpourref22_count.f
  exact count_l0 l hl i hi _ rfl i k 0 (by omega) hk

/-- An event of a history may be. -/
def good (l : List S53) (i : Nat) : Prop :=
  (0 ≤ (l.getD i z53).f0 ∧ (l.getD i z53).f0 ≤ 3) ∧ bad (pf l (l.getD i z53).f0 i).length (lastOf z53 (pf l (l.getD i z53).f0 i)) (l.getD i z53) = false
theorem not_eq36 (a b : S36) : ((!(a.f0 == b.f0) || (!(a.f1 == b.f1) || (!(a.f2 == b.f2) || (!(a.f3 == b.f3) || (!(a.f4 == b.f4) || ((!(a.f5.f0 == b.f5.f0) || (!(a.f5.f1.toList == b.f5.f1.toList)))))))))) = !eq36 a b := by
  unfold eq36
  simp only [Bool.not_and]
theorem refRight_l0 (l : List S53) (hl : l.length ≤ 50) (d : Nat) : ∀ (k i : Nat), i + d = l.length → 2 * d + l.length + 2 < k →
    ∃ b, downpourref22_Right.l0 k l l (l.length : Int) i = some b ∧ (b = true ↔ (∀ j, i ≤ j → j < l.length → good l j) ∧ l.length ≤ 48) := by
  induction d with
  | zero =>
    intro k i hi hk
    obtain ⟨k, rfl⟩ : ∃ m, k = m + 1 := ⟨k - 1, by omega⟩
    simp only [downpourref22_Right.l0]
    rw [if_neg (by omega)]
    refine ⟨_, rfl, ?_⟩
    rw [decide_eq_true_iff]
    exact ⟨fun h => ⟨fun j h1 h2 => by omega, by omega⟩, fun h => by omega⟩
  | succ d ih =>
    intro k i hi hk
    obtain ⟨k, rfl⟩ : ∃ m, k = m + 2 := ⟨k - 2, by omega⟩
    obtain ⟨b, hb, hbi⟩ := ih k (i + 1) (by omega) (by omega)
    have hcf := count_f l hl i (by omega) (k + 1) (by omega)
    have e1 := wrap_s i (by omega)
    have hp := pf_le l (l.getD i z53).f0 i
    have hlast := last_spec l (l.getD i z53).f0 i (by omega)
    have hno : ¬ good l i → ((false = true) ↔ (∀ j, i ≤ j → j < l.length → good l j) ∧ l.length ≤ 48) := fun h =>
      ⟨fun h => (by cases h), fun h2 => absurd (h2.1 i (Nat.le_refl _) (by omega)) h⟩
    have hyes : good l i → (b = true ↔ (∀ j, i ≤ j → j < l.length → good l j) ∧ l.length ≤ 48) := fun h =>
      hbi.trans ⟨fun h2 => ⟨fun j h3 h4 => by
        by_cases e : j = i
        · rw [e]; exact h
        · exact h2.1 j (by omega) h4, h2.2⟩, fun h2 => ⟨fun j h3 h4 => h2.1 j (by omega) h4, h2.2⟩⟩
    have hg : good l i ↔ (0 ≤ (l.getD i z53).f0 ∧ (l.getD i z53).f0 ≤ 3) ∧ bad (pf l (l.getD i z53).f0 i).length (lastOf z53 (pf l (l.getD i z53).f0 i)) (l.getD i z53) = false := Iff.rfl
    simp only [downpourref22_Right.l0]
    rw [if_pos (by omega), if_pos (by omega), if_pos (by omega), hcf, Option.bind_some, rd53_nat]
    clear hcf
    generalize hx : l.getD i z53 = x at *
    generalize hM : (pf l x.f0 i).length = M at *
    have m1 : Int.tmod (M : Int) 2 = ((M % 2 : Nat) : Int) := by rw [Int.tmod_eq_emod_of_nonneg (by omega)]; omega
    have m2 : wrap64 (Int.tdiv (M : Int) 2) = ((M / 2 : Nat) : Int) := by rw [Int.tdiv_eq_ediv_of_nonneg (by omega)]; unfold wrap64; omega
    simp only [downpourref22_Right.j1]
    rw [m1, m2, e1]
    clear m1 m2 e1
    by_cases t0 : x.f0 < 0
    · rw [if_pos t0, if_pos trivial]
      exact ⟨false, rfl, hno (fun h => by have := (hg.mp h).1; omega)⟩
    · rw [if_neg t0]
      by_cases t1 : x.f0 > 3
      · rw [if_pos t1, if_pos trivial]
        exact ⟨false, rfl, hno (fun h => by have := (hg.mp h).1; omega)⟩
      · rw [if_neg t1]
        by_cases t2 : x.f1 = ((M % 2 : Nat) : Int)
        · rw [if_pos t2]
          by_cases t3 : x.f2 = ((M / 2 : Nat) : Int)
          · rw [if_neg (by simp [t3])]
            by_cases t4 : x.f1 = 1
            · rw [if_pos t4]
              have hM1 : 0 < M := by omega
              obtain ⟨j, h1, h2, h3⟩ := hlast hM1
              rw [h1, if_pos (by omega), if_pos (by omega), rd53_nat, ← h3, not_eq36]
              cases he : eq36 x.f3 (lastOf z53 (pf l x.f0 i)).f3 with
              | true =>
                rw [if_neg (by simp)]
                exact ⟨b, hb, hyes (hg.mpr ⟨⟨by omega, by omega⟩, by simp [bad, t2, t3, he]⟩)⟩
              | false =>
                rw [if_pos (by rfl)]
                exact ⟨false, rfl, hno (fun h => by have := (hg.mp h).2; simp [bad, t4, he] at this)⟩
            · rw [if_neg t4]
              exact ⟨b, hb, hyes (hg.mpr ⟨⟨by omega, by omega⟩, by
                have : (x.f1 == 1) = false := by simpa using t4
                unfold bad; rw [this, t2, t3]; simp⟩)⟩
          · rw [if_pos (by simpa using t3)]
            exact ⟨false, rfl, hno (fun h => by
              have := (hg.mp h).2
              unfold bad at this
              rw [show (x.f2 != ((M / 2 : Nat) : Int)) = true from by simpa using t3] at this
              simp at this)⟩
        · rw [if_neg t2, if_pos trivial]
          exact ⟨false, rfl, hno (fun h => by
            have := (hg.mp h).2
            unfold bad at this
            rw [show (x.f1 != ((M % 2 : Nat) : Int)) = true from by simpa using t2] at this
            simp at this)⟩

theorem okRow_good (l : List S53) (c : Int) (i : Nat) (hi : i ≤ l.length) : okRow 0 z53 (pf l c i) = true ↔ ∀ j, j < i → (l.getD j z53).f0 = c → bad (pf l c j).length (lastOf z53 (pf l c j)) (l.getD j z53) = false := by
  induction i with
  | zero => simp [pf, okRow]
  | succ i ih =>
    rw [pf_succ l c i (by omega)]
    by_cases hc : (l.getD i z53).f0 = c
    · rw [if_pos hc, okRow_snoc, Bool.and_eq_true, ih (by omega), Nat.zero_add]
      constructor
      · rintro ⟨h1, h2⟩ j hj hjc
        by_cases e : j = i
        · rw [e]; simpa using h2
        · exact h1 j (by omega) hjc
      · intro h
        exact ⟨fun j hj hjc => h j (by omega) hjc, by simpa using h i (by omega) hc⟩
    · rw [if_neg hc, ih (by omega)]
      constructor
      · intro h1 j hj hjc
        by_cases e : j = i
        · rw [e] at hjc; exact absurd hjc hc
        · exact h1 j (by omega) hjc
      · intro h j hj hjc; exact h j (by omega) hjc
theorem okH_good (l : List S53) : okH l = true ↔ (∀ j, j < l.length → good l j) ∧ l.length ≤ 48 := by
  unfold okH
  rw [Bool.and_eq_true, Bool.and_eq_true, decide_eq_true_iff]
  have hC : ∀ c : Nat, okC l c = true ↔ ∀ j, j < l.length → (l.getD j z53).f0 = (c : Int) → bad (pf l c j).length (lastOf z53 (pf l c j)) (l.getD j z53) = false := fun c => by
    have := okRow_good l (c : Int) l.length (Nat.le_refl _)
    rwa [show pf l (c : Int) l.length = l.filter (fun x => x.f0 == (c : Int)) from by unfold pf; rw [List.take_length]] at this
  have hA : (!l.any (fun x => okCl x.f0)) = true ↔ ∀ j, j < l.length → 0 ≤ (l.getD j z53).f0 ∧ (l.getD j z53).f0 ≤ 3 := by
    rw [Bool.not_eq_true', List.any_eq_false]
    constructor
    · intro h j hj
      have := h _ (List.getElem_mem hj)
      simp only [okCl, Bool.or_eq_true, decide_eq_true_eq, not_or] at this
      rw [List.getD_eq_getElem?_getD, List.getElem?_eq_getElem hj]
      simp only [Option.getD_some]
      omega
    · intro h x hx
      obtain ⟨j, hj, rfl⟩ := List.getElem_of_mem hx
      have := h j hj
      rw [List.getD_eq_getElem?_getD, List.getElem?_eq_getElem hj] at this
      simp only [Option.getD_some] at this
      simp only [okCl, Bool.or_eq_true, decide_eq_true_eq, not_or]
      omega
  rw [hA, List.all_eq_true]
  constructor
  · rintro ⟨h1, h2, h3⟩
    refine ⟨fun j hj => ⟨h2 j hj, ?_⟩, h1⟩
    have hj2 := h2 j hj
    obtain ⟨c, hc⟩ := Int.eq_ofNat_of_zero_le hj2.1
    have := (hC c).mp (h3 c (List.mem_range.mpr (by omega))) j hj hc
    rwa [hc]
  · rintro ⟨h1, h2⟩
    refine ⟨h2, fun j hj => (h1 j hj).1, fun c hc => (hC c).mpr (fun j hj hjc => ?_)⟩
    have := (h1 j hj).2
    rwa [hjc] at this
theorem refRight_f (l : List S53) (hl : l.length ≤ 50) : downpourref22_Right.f 200 l = some (okH l) := by
  obtain ⟨b, hb, hbi⟩ := refRight_l0 l hl l.length 200 0 (by omega) (by omega)
  unfold downpourref22_Right.f
  refine hb.trans ?_
  congr 1
  have h := okH_good l
  have : b = true ↔ okH l = true := hbi.trans (Iff.trans ⟨fun h => ⟨fun j hj => h.1 j (Nat.zero_le _) hj, h.2⟩, fun h => ⟨fun j _ hj => h.1 j hj, h.2⟩⟩ h.symm)
  cases b <;> cases hq : okH l <;> simp_all
end Go.Proofs.Ytobfcppjmocgnaa.Own

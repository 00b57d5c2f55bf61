/-
  The order of a history's spans.
-/
import Derived.Test.YtobfcppjmocgnaaPureCut
namespace Go.Proofs.Ytobfcppjmocgnaa.Own
open Go.RowKit Go.Shelf Go.Proofs.YtobfcppjmocgnaaW.PrintWords Go.Proofs.YtobfcppjmocgnaaW.PrintLast Go.Proofs.Ytobfcppjmocgnaa.P
set_option linter.unusedVariables false

/-- Where a span comes from. -/
theorem sp_src (l : List S53) (hd : Nat → Option Addr × Nat) (n : Nat) (hn : n ≤ l.length) : ∀ (p : SP), p ∈ spTo l hd n → ∃ k, k < n ∧ (l.getD k z53).f1 = 0 ∧ p.1 = spanV (l.getD k z53) k (nextE l hd k (l.getD k z53)) := by
  induction n with
  | zero => intro p hp; simp [spTo] at hp
  | succ n ih =>
    intro p hp
    have hx : l[n]? = some (l.getD n z53) := by rw [List.getD_eq_getElem?_getD, List.getElem?_eq_getElem (show n < l.length by omega)]; rfl
    rw [spTo_succ hx] at hp
    rcases List.mem_append.mp hp with hp | hp
    · obtain ⟨k, h1, h2⟩ := ih (by omega) p hp
      exact ⟨k, by omega, h2⟩
    · unfold spOf at hp
      split at hp
      · rename_i h0
        simp only [List.mem_singleton] at hp
        subst hp
        exact ⟨n, by omega, h0, rfl⟩
      · cases hp
theorem sp_mono (l : List S53) (hd : Nat → Option Addr × Nat) (n : Nat) (hn : n ≤ l.length) : ∀ (i j : Nat) (p q : SP), (spTo l hd n)[i]? = some p → (spTo l hd n)[j]? = some q → i < j → p.1.f4 < q.1.f4 := by
  induction n with
  | zero => intro i j p q hp; simp [spTo] at hp
  | succ n ih =>
    intro i j p q hp hq hij
    have hx : l[n]? = some (l.getD n z53) := by rw [List.getD_eq_getElem?_getD, List.getElem?_eq_getElem (show n < l.length by omega)]; rfl
    rw [spTo_succ hx] at hp hq
    rcases Nat.lt_or_ge j (spTo l hd n).length with hj | hj
    · rw [List.getElem?_append_left hj] at hq
      rw [List.getElem?_append_left (by omega)] at hp
      exact ih (by omega) i j p q hp hq hij
    · rw [List.getElem?_append_right hj] at hq
      have hq2 := List.mem_of_getElem? hq
      unfold spOf at hq2 hq
      split at hq2
      · rename_i h0
        simp only [List.mem_singleton] at hq2
        subst hq2
        have hj2 : j = (spTo l hd n).length := by
          rw [if_pos h0] at hq
          have := (List.getElem?_eq_some_iff.mp hq).1
          simp at this
          omega
        rw [List.getElem?_append_left (by omega)] at hp
        have := spTo_from l hd n p (List.mem_of_getElem? hp)
        simp only [spanV_f4]
        omega
      · cases hq2
theorem from_pf {l : List S53} {hd : Nat → Option Addr × Nat} {c : Int} (d : Nat) : ∀ (m : Nat) (y : E), m + d = l.length → fromE l hd m c = some y → m ≤ y.1 ∧ y.1 < l.length ∧ y.2.1 = l.getD y.1 z53 ∧ (l.getD y.1 z53).f0 = c ∧ pf l c y.1 = pf l c m ∧ ∀ j, m ≤ j → j < y.1 → (l.getD j z53).f0 ≠ c := by
  induction d with
  | zero => intro m y hm h; obtain rfl : m = l.length := by omega
            rw [from_end] at h; cases h
  | succ d ih =>
    intro m y hm h
    have hx : l[m]? = some (l.getD m z53) := by rw [List.getD_eq_getElem?_getD, List.getElem?_eq_getElem (show m < l.length by omega)]; rfl
    rw [from_step hx] at h
    by_cases hc : (l.getD m z53).f0 = c
    · rw [if_pos hc] at h
      cases h
      exact ⟨Nat.le_refl _, by omega, rfl, hc, rfl, fun j h1 h2 => by simp only at h2; omega⟩
    · rw [if_neg hc] at h
      obtain ⟨h1, h2, h3, h4, h5, h6⟩ := ih (m + 1) y (by omega) h
      refine ⟨by omega, h2, h3, h4, ?_, fun j h7 h8 => ?_⟩
      · rw [h5, pf_succ l c m (by omega), if_neg hc]
      · by_cases e : j = m
        · rw [e]; exact hc
        · exact h6 j (by omega) h8
theorem from_none {l : List S53} {hd : Nat → Option Addr × Nat} {c : Int} (d : Nat) : ∀ (m : Nat), m + d = l.length → fromE l hd m c = none → ∀ j, m ≤ j → j < l.length → (l.getD j z53).f0 ≠ c := by
  induction d with
  | zero => intro m hm _ j h1 h2; omega
  | succ d ih =>
    intro m hm h j h1 h2
    have hx : l[m]? = some (l.getD m z53) := by rw [List.getD_eq_getElem?_getD, List.getElem?_eq_getElem (show m < l.length by omega)]; rfl
    rw [from_step hx] at h
    by_cases hc : (l.getD m z53).f0 = c
    · rw [if_pos hc] at h; cases h
    · rw [if_neg hc] at h
      by_cases e : j = m
      · rw [e]; exact hc
      · exact ih (m + 1) (by omega) h j (by omega) h2
theorem pf_mono (l : List S53) (c : Int) (i d : Nat) (h : i + d ≤ l.length) : (pf l c i).length ≤ (pf l c (i + d)).length := by
  induction d with
  | zero => exact Nat.le_refl _
  | succ d ih =>
    have := ih (by omega)
    rw [← Nat.add_assoc, pf_succ l c (i + d) (by omega)]
    split
    · rw [List.length_append]; omega
    · exact this
/-- What is behind a call's beginning, of its client, is its end. -/
theorem next_back {l : List S53} (hd : Nat → Option Addr × Nat) (hg : ∀ j, j < l.length → good l j) {k : Nat} (hk : k < l.length) (h0 : (l.getD k z53).f1 = 0) {y : E} (hy : nextE l hd k (l.getD k z53) = some y) :
    k < y.1 ∧ y.1 < l.length ∧ (l.getD y.1 z53).f1 = 1 ∧ (pf l (l.getD k z53).f0 (y.1 + 1)).length = (pf l (l.getD k z53).f0 k).length + 2 ∧ ∀ j, k < j → j < y.1 → (l.getD j z53).f0 ≠ (l.getD k z53).f0 := by
  obtain ⟨h1, h2, h3, h4, h5, h6⟩ := from_pf (l.length - (k + 1)) (k + 1) y (by omega) (show fromE l hd (k + 1) (l.getD k z53).f0 = some y from hy)
  have e1 := bad_f1 (hg k hk).2
  have e2 := bad_f1 (hg y.1 h2).2
  rw [h4, h5, pf_succ l _ k hk, if_pos rfl, List.length_append, List.length_singleton] at e2
  refine ⟨by omega, h2, by omega, ?_, fun j h7 h8 => h6 j (by omega) h8⟩
  rw [pf_succ l _ y.1 h2, if_pos h4, h5, pf_succ l _ k hk, if_pos rfl]
  simp
/-- What holds of a history's spans. -/
structure Ord (sp : List SP) (is : Bool) : Prop where
  cl : ∀ p ∈ sp, 0 ≤ p.1.f0 ∧ p.1.f0 ≤ 3
  later : ∀ p ∈ sp, 0 ≤ p.1.f5 → p.1.f4 < p.1.f5
  mono : ∀ (i j : Nat) (p q : SP), sp[i]? = some p → sp[j]? = some q → i < j → p.1.f4 < q.1.f4
  same : ∀ (i j : Nat) (p q : SP), sp[i]? = some p → sp[j]? = some q → i < j → p.1.f0 = q.1.f0 → befB p.1 q.1 = true ∧ p.1.f1 < q.1.f1
  al : is = true → ∀ (i j : Nat) (p q : SP), sp[i]? = some p → sp[j]? = some q → i < j → befB p.1 q.1 = true
theorem spanV_f0 (x : S53) (k : Int) (o : Option E) : (spanV x k o).f0 = x.f0 := by cases o <;> rfl
theorem spanV_f1 (x : S53) (k : Int) (o : Option E) : (spanV x k o).f1 = x.f2 := by cases o <;> rfl
theorem ord_of (l : List S53) (hd : Nat → Option Addr × Nat) (ho : okH l = true) : Ord (spTo l hd l.length) (!(spTo l hd l.length).any (fun p => alB l.length p.1)) := by
  have hg := ((okH_good l).mp ho).1
  have src := sp_src l hd l.length (Nat.le_refl _)
  have mono := sp_mono l hd l.length (Nat.le_refl _)
  refine ⟨fun p hp => ?_, fun p hp h5 => ?_, mono, fun i j p q hp hq hij hc => ?_, fun his i j p q hp hq hij => ?_⟩
  · obtain ⟨k, h1, h2, h3⟩ := src p hp
    rw [h3, spanV_f0]
    exact (hg k h1).1
  · obtain ⟨k, h1, h2, h3⟩ := src p hp
    rw [h3] at h5 ⊢
    cases hn : nextE l hd k (l.getD k z53) with
    | none => rw [hn] at h5; simp [spanV] at h5
    | some y =>
      have := next_back hd hg h1 h2 hn
      simp only [spanV]
      omega
  · obtain ⟨k, h1, h2, h3⟩ := src p (List.mem_of_getElem? hp)
    obtain ⟨m, g1, g2, g3⟩ := src q (List.mem_of_getElem? hq)
    have hlt := mono i j p q hp hq hij
    rw [h3, g3, spanV_f4, spanV_f4] at hlt
    rw [h3, g3, spanV_f0, spanV_f0] at hc
    rw [h3, g3]
    have hkm : k < m := by omega
    cases hn : nextE l hd k (l.getD k z53) with
    | none => exact absurd hc.symm (from_none (l.length - (k + 1)) (k + 1) (by omega) (show fromE l hd (k + 1) (l.getD k z53).f0 = none from hn) m (by omega) g1)
    | some y =>
      obtain ⟨n1, n2, n3, n4, n5⟩ := next_back hd hg h1 h2 hn
      have hym : y.1 ≤ m := by
        rcases Nat.lt_or_ge m y.1 with h | h
        · exact absurd hc.symm (n5 m hkm h)
        · exact h
      have hne : y.1 ≠ m := fun e => by rw [e] at n3; omega
      have e1 := bad_f2 (hg k h1).2
      have e2 := bad_f2 (hg m g1).2
      have e3 := bad_f1 (hg k h1).2
      have e4 := pf_mono l (l.getD k z53).f0 (y.1 + 1) (m - (y.1 + 1)) (by omega)
      rw [show y.1 + 1 + (m - (y.1 + 1)) = m by omega, n4] at e4
      rw [← hc] at e2
      refine ⟨?_, ?_⟩
      · unfold befB
        rw [spanV_f4]
        refine Bool.and_eq_true_iff.mpr ⟨decide_eq_true ?_, decide_eq_true ?_⟩ <;> (simp only [spanV]; omega)
      · rw [spanV_f1, spanV_f1, e1, e2]
        omega
  · obtain ⟨k, h1, h2, h3⟩ := src p (List.mem_of_getElem? hp)
    obtain ⟨m, g1, g2, g3⟩ := src q (List.mem_of_getElem? hq)
    have hlt := mono i j p q hp hq hij
    rw [h3, g3, spanV_f4, spanV_f4] at hlt
    have ha : alB l.length p.1 = false := by
      rw [Bool.not_eq_true', List.any_eq_false] at his
      simpa using his p (List.mem_of_getElem? hp)
    rw [h3] at ha
    rw [h3, g3]
    unfold alB at ha
    rw [spanV_f4, Bool.and_eq_false_iff] at ha
    rcases ha with ha | ha
    · have h5 : (spanV (l.getD k z53) k (nextE l hd k (l.getD k z53))).f5 = (k : Int) + 1 := by simpa using ha
      cases hn : nextE l hd k (l.getD k z53) with
      | none => rw [hn] at h5; simp [spanV] at h5; omega
      | some y =>
        obtain ⟨n1, n2, n3, n4, n5⟩ := next_back hd hg h1 h2 hn
        rw [hn] at h5
        simp only [spanV] at h5
        have hne : y.1 ≠ m := fun e => by rw [e] at n3; omega
        unfold befB
        rw [spanV_f4]
        refine Bool.and_eq_true_iff.mpr ⟨decide_eq_true ?_, decide_eq_true ?_⟩ <;> (simp only [spanV]; omega)
    · have : (k : Int) = (l.length : Int) - 1 := by simpa using ha
      omega
/-- How many of some spans are a client's. -/
def nO (sp : List SP) (o : List Int) (c : Int) : Nat := (o.filter (fun j => decide (((sp[j.toNat]?).map (fun p => p.1.f0)) = some c))).length
theorem nO_le {sp : List SP} {is : Bool} (h : Ord sp is) (c : Int) : ∀ k, k ≤ sp.length → nO sp (openTo sp k) c ≤ 1 ∧ (nO sp (openTo sp k) c = 1 → ∃ (i : Nat) (p : SP), i < k ∧ sp[i]? = some p ∧ p.1.f0 = c ∧ p.1.f5 < 0) := by
  intro k
  induction k with
  | zero => intro _; exact ⟨by simp [nO, openTo], fun h => by simp [nO, openTo] at h⟩
  | succ k ih =>
    intro hk
    obtain ⟨h1, h2⟩ := ih (by omega)
    obtain ⟨q, hq⟩ : ∃ q, sp[k]? = some q := ⟨_, List.getElem?_eq_getElem hk⟩
    rw [openTo_succ hq]
    unfold openAt
    by_cases h5 : q.1.f5 < 0
    · rw [if_pos h5]
      unfold nO at h1 h2 ⊢
      rw [List.filter_append, List.length_append, List.filter_cons, List.filter_nil, Int.toNat_natCast, hq]
      by_cases hc : q.1.f0 = c
      · rw [if_pos (by simpa using hc), List.length_singleton]
        have h0 : ¬ ((openTo sp k).filter (fun j => decide (((sp[j.toNat]?).map (fun p => p.1.f0)) = some c))).length = 1 := fun e => by
          obtain ⟨i, p, i1, i2, i3, i4⟩ := h2 e
          have := (h.same i k p q i2 hq i1 (i3.trans hc.symm)).1
          unfold befB at this
          simp at this
          omega
        exact ⟨by omega, fun _ => ⟨k, q, by omega, hq, hc, h5⟩⟩
      · rw [if_neg (by simpa using hc), List.length_nil, Nat.add_zero]
        exact ⟨h1, fun e => by obtain ⟨i, p, i1, i2⟩ := h2 e; exact ⟨i, p, by omega, i2⟩⟩
    · rw [if_neg h5, List.append_nil]
      exact ⟨h1, fun e => by obtain ⟨i, p, i1, i2⟩ := h2 e; exact ⟨i, p, by omega, i2⟩⟩
theorem nO_snoc (sp : List SP) (o : List Int) (j : Nat) (p : SP) (hp : sp[j]? = some p) (c : Int) : nO sp (o ++ [(j : Int)]) c = nO sp o c + if p.1.f0 = c then 1 else 0 := by
  unfold nO
  rw [List.filter_append, List.length_append, List.filter_cons, List.filter_nil, Int.toNat_natCast, hp]
  by_cases hc : p.1.f0 = c
  · rw [if_pos hc, if_pos (by simpa using hc)]; rfl
  · rw [if_neg hc, if_neg (by simpa using hc)]; rfl
theorem openTo_mem (sp : List SP) (k : Nat) : k ≤ sp.length → ∀ j ∈ openTo sp k, ∃ i : Nat, j = i ∧ i < k := by
  induction k with
  | zero => intro _ j hj; simp [openTo] at hj
  | succ k ih =>
    intro hk j hj
    obtain ⟨q, hq⟩ : ∃ q, sp[k]? = some q := ⟨_, List.getElem?_eq_getElem hk⟩
    rw [openTo_succ hq] at hj
    rcases List.mem_append.mp hj with hj | hj
    · obtain ⟨i, h1, h2⟩ := ih (by omega) j hj
      exact ⟨i, h1, by omega⟩
    · unfold openAt at hj
      split at hj
      · simp only [List.mem_singleton] at hj
        exact ⟨k, hj, by omega⟩
      · cases hj
/-- Behind each other. -/
theorem bef_facts {sp : List SP} {is : Bool} (h : Ord sp is) {i j : Nat} {p q : SP} (hp : sp[i]? = some p) (hq : sp[j]? = some q) (hb : befB p.1 q.1 = true) : i < j ∧ befB q.1 p.1 = false := by
  have l1 := h.later p (List.mem_of_getElem? hp)
  have l2 := h.later q (List.mem_of_getElem? hq)
  unfold befB at hb ⊢
  simp only [Bool.and_eq_true, decide_eq_true_eq] at hb
  refine ⟨?_, ?_⟩
  · rcases Nat.lt_trichotomy i j with h1 | h1 | h1
    · exact h1
    · subst h1
      rw [hp] at hq
      cases hq
      have := l1 hb.1
      omega
    · have := h.mono j i q p hq hp h1
      have := l1 hb.1
      omega
  · rw [Bool.and_eq_false_iff, decide_eq_false_iff_not, decide_eq_false_iff_not]
    have := l1 hb.1
    by_cases h0 : 0 ≤ q.1.f5
    · have := l2 h0
      exact .inr (by omega)
    · exact .inl h0
theorem bef_trans {sp : List SP} {is : Bool} (h : Ord sp is) {p q r : SP} (hq : q ∈ sp) (h1 : befB p.1 q.1 = true) (h2 : befB q.1 r.1 = true) : befB p.1 r.1 = true := by
  unfold befB at h1 h2 ⊢
  simp only [Bool.and_eq_true, decide_eq_true_eq] at h1 h2 ⊢
  have := h.later q hq h2.1
  exact ⟨h1.1, by omega⟩
end Go.Proofs.Ytobfcppjmocgnaa.Own

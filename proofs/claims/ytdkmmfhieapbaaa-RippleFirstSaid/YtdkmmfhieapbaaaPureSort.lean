/-
  Plain law: the reference's rows of drops: Same of a row with itself, With and Sorted.
-/
import Derived.Test.YtdkmmfhieapbaaaPx4
import Derived.Test.YtdkmmfhieapbaaaPx5
namespace Go.Proofs.Ytdkmmfhieapbaaa.Pure
open Go.RowKit Go.Proofs.Ytdkmmfhieapbaaa.P Go.Proofs.Ytdkmmfhieapbaaa.Own Go.Proofs.Ytdkmmfhieapbaaa.Plain
set_option linter.unusedVariables false

theorem rd_at {l : List S24} {i : Nat} {x : S24} (h : l[i]? = some x) : rd_T24 l (i : Int) = x := by unfold rd_T24; rw [Int.toNat_natCast, List.getD_eq_getElem?_getD, h]; rfl
theorem wrap_succ {i n : Nat} (h : i < n) (hn : n ≤ 1000000) : wrap64 ((i : Int) + 1) = ((i + 1 : Nat) : Int) := by unfold wrap64; omega
theorem refBefore (a b : S24) : downpourref14_Before.f a.f0 a.f1 b.f0 b.f1 = some (ltB a b) := by
  unfold downpourref14_Before.f ltB
  split
  · next e => simp [e]
  · next e => simp [e]
theorem ripBefore (a b : S24) : ripple_Before.f a.f0 a.f1 b.f0 b.f1 = some (ltB a b) := by
  unfold ripple_Before.f ltB
  split
  · next e => simp [e]
  · next e =>
    split
    · next e2 => simp [e2]
    · next e2 => simp [e, e2]

theorem same_l0 (l : List S24) (hl : l.length ≤ 1000000) : ∀ n i k, i + n = l.length → downpourref14_Same.l0 (k + n + 1) l l (l.length : Int) (i : Int) = some true := by
  intro n
  induction n with
  | zero =>
    intro i k h
    rw [downpourref14_Same.l0]
    rw [if_neg (by omega)]
  | succ n ih =>
    intro i k h
    have e : k + (n + 1) + 1 = (k + n + 1) + 1 := by omega
    rw [e]
    rw [downpourref14_Same.l0]
    rw [if_pos (by omega), if_pos (by omega), if_pos (by omega), if_pos (by omega), if_neg (by simp), wrap_succ (n := l.length) (by omega) hl]
    exact ih (i + 1) k (by omega)
theorem same_self (l : List S24) (hl : l.length ≤ 1000000) (k : Nat) (hk : l.length < k) : downpourref14_Same.f k l l = some true := by
  unfold downpourref14_Same.f
  rw [if_pos rfl]
  obtain ⟨m, rfl⟩ : ∃ m, k = m + l.length + 1 := ⟨k - l.length - 1, by omega⟩
  exact same_l0 l hl l.length 0 m (by omega)

theorem with_l1 (d : S24) (l : List S24) (hl : l.length ≤ 1000000) : ∀ n i k (acc : List S24), i + n = l.length → acc.length + n ≤ 3000000 →
    downpourref14_With.l1 (k + n + 1) acc l (l.length : Int) (i : Int) d.f0 d.f1 = some (acc ++ (l.drop i).filter (fun x => ltB d x)) := by
  intro n
  induction n with
  | zero =>
    intro i k acc h ha
    rw [downpourref14_With.l1]
    rw [if_neg (by omega), List.drop_of_length_le (by omega)]
    simp
  | succ n ih =>
    intro i k acc h ha
    have e : k + (n + 1) + 1 = (k + n + 1) + 1 := by omega
    obtain ⟨x, hx⟩ : ∃ x, l[i]? = some x := ⟨_, List.getElem?_eq_getElem (by omega)⟩
    obtain ⟨hi, hx2⟩ := List.getElem?_eq_some_iff.1 hx
    rw [e]
    rw [downpourref14_With.l1]
    rw [if_pos (by omega), if_pos (by omega), if_pos (by omega), rd_at hx, refBefore, Option.bind_some, wrap_succ (n := l.length) (by omega) hl, List.drop_eq_getElem_cons hi, hx2, List.filter_cons]
    cases hb : ltB d x with
    | true =>
      rw [if_pos rfl, if_pos (by omega), if_pos rfl, ih (i + 1) k _ (by omega) (by simp; omega), List.append_assoc]
      rfl
    | false =>
      rw [if_neg (by simp), if_neg (by simp), ih (i + 1) k _ (by omega) (by omega)]
theorem with_l0 (d : S24) (l : List S24) (hl : l.length ≤ 1000000) : ∀ n i k (acc : List S24), i + n = l.length → acc.length + n ≤ 1000000 →
    downpourref14_With.l0 (k + n + 1) l acc l (l.length : Int) (i : Int) d.f0 d.f1 = downpourref14_With.l1 k (acc ++ (l.drop i).filter (fun x => !ltB d x) ++ [d]) l (l.length : Int) ((0 : Nat) : Int) d.f0 d.f1 := by
  intro n
  induction n with
  | zero =>
    intro i k acc h ha
    rw [downpourref14_With.l0]
    rw [if_neg (by omega), if_pos (by omega), List.drop_of_length_le (by omega)]
    simp
  | succ n ih =>
    intro i k acc h ha
    have e : k + (n + 1) + 1 = (k + n + 1) + 1 := by omega
    obtain ⟨x, hx⟩ : ∃ x, l[i]? = some x := ⟨_, List.getElem?_eq_getElem (by omega)⟩
    obtain ⟨hi, hx2⟩ := List.getElem?_eq_some_iff.1 hx
    rw [e]
    rw [downpourref14_With.l0]
    rw [if_pos (by omega), if_pos (by omega), if_pos (by omega), rd_at hx, refBefore, Option.bind_some, wrap_succ (n := l.length) (by omega) hl, List.drop_eq_getElem_cons hi, hx2, List.filter_cons]
    cases hb : ltB d x with
    | true =>
      rw [if_pos rfl, ih (i + 1) k _ (by omega) (by omega)]
      rfl
    | false =>
      rw [if_neg (by simp), if_pos (by omega), ih (i + 1) k _ (by omega) (by simp; omega)]
      simp
theorem filter_ins {l : List S24} (h : Plain.Ord ltB l) (d : S24) : l.filter (fun x => !ltB d x) ++ [d] ++ l.filter (fun x => ltB d x) = ins ltB d l := by
  induction l with
  | nil => rfl
  | cons x l ih =>
    unfold Plain.Ord at h
    rw [List.pairwise_cons] at h
    unfold ins
    cases hb : ltB d x with
    | true =>
      have hall : ∀ y ∈ l, ltB d y = true := by
        intro y hy
        cases e : ltB d y with
        | true => rfl
        | false => have := ltO.le_tr (h.1 y hy) (show ltB d y = false from e); rw [hb] at this; cases this
      have e1 : l.filter (fun x => !ltB d x) = [] := by
        rw [List.filter_eq_nil_iff]
        intro y hy
        simp [hall y hy]
      have e2 : l.filter (fun x => ltB d x) = l := List.filter_eq_self.2 hall
      simp [hb, e1, e2]
    | false =>
      simp only [List.filter_cons, hb, Bool.not_false, if_true, Bool.false_eq_true, if_false, List.cons_append]
      rw [← ih h.2]
theorem with_eq (d : S24) (l : List S24) (ho : Plain.Ord ltB l) (hl : l.length ≤ 1000000) (k : Nat) (hk : 2 * l.length + 2 ≤ k) : downpourref14_With.f k l d.f0 d.f1 = some (ins ltB d l) := by
  unfold downpourref14_With.f
  obtain ⟨m, rfl⟩ : ∃ m, k = (m + l.length + 1) + l.length + 1 := ⟨k - 2 * l.length - 2, by omega⟩
  rw [show (0 : Int) = ((0 : Nat) : Int) from rfl, with_l0 d l hl l.length 0 _ [] (by omega) (by simpa using hl), with_l1 d l hl l.length 0 m _ (by omega) (by
    simp only [List.nil_append, List.drop_zero, List.length_append, List.length_singleton]
    have := List.length_filter_le (fun x => !ltB d x) l
    omega)]
  simp only [List.nil_append, List.drop_zero]
  rw [filter_ins ho]

theorem sorted_l0 (l : List S24) (hl : l.length ≤ 1000000) : ∀ n i k, i + n = l.length → 2 * l.length + 2 ≤ k → downpourref14_Sorted.l0 (k + n + 1) (srt ltB (l.take i)) l (l.length : Int) (i : Int) = some (srt ltB l) := by
  intro n
  induction n with
  | zero =>
    intro i k h hk
    rw [downpourref14_Sorted.l0]
    rw [if_neg (by omega), List.take_of_length_le (by omega)]
  | succ n ih =>
    intro i k h hk
    have e : k + (n + 1) + 1 = (k + n + 1) + 1 := by omega
    obtain ⟨x, hx⟩ : ∃ x, l[i]? = some x := ⟨_, List.getElem?_eq_getElem (by omega)⟩
    rw [e]
    rw [downpourref14_Sorted.l0]
    rw [if_pos (by omega), if_pos (by omega), if_pos (by omega), rd_at hx, with_eq x _ (srt_ord ltO _) (by rw [srt_length, List.length_take]; omega) _ (by rw [srt_length, List.length_take]; omega), Option.bind_some, ← srt_snoc, ← take_snoc hx, wrap_succ (n := l.length) (by omega) hl]
    exact ih (i + 1) k (by omega) hk
theorem sorted_eq (l : List S24) (hl : l.length ≤ 1000000) (k : Nat) (hk : 3 * l.length + 3 ≤ k) : downpourref14_Sorted.f k l = some (srt ltB l) := by
  unfold downpourref14_Sorted.f
  obtain ⟨m, rfl⟩ : ∃ m, k = m + l.length + 1 := ⟨k - l.length - 1, by omega⟩
  exact sorted_l0 l hl l.length 0 m (by omega) (by omega)
theorem sorted_f (l : List S24) (hl : l.length ≤ 70000) : ripple_Sorted.f l = some (srt ltB l) := by unfold ripple_Sorted.f; rw [if_pos hl]
theorem run_f (l : List S43) (hl : l.length ≤ 60000) : ripple_Run.f l = some (runL l) := by unfold ripple_Run.f; rw [if_pos hl]
theorem alive_f : downpourlaw14_alive.f = some true := by
  unfold downpourlaw14_alive.f
  rw [sorted_f _ (by decide), Option.bind_some]
  rfl
end Go.Proofs.Ytdkmmfhieapbaaa.Pure

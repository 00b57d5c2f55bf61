/-
  Plain: the printed Right of the reference is the model's.
-/
import Derived.Test.YthnimpbcfegmjaaA3
import Derived.Test.YthnimpbcfegmjaaPx6
namespace Go.Proofs.Ythnimpbcfegmjaa.Own
open Go.RowKit Go.Proofs.YthnimpbcfegmjaaW.PrintWords Go.Proofs.YthnimpbcfegmjaaW.PrintLast Go.Proofs.YthnimpbcfegmjaaW.PrintMore Go.Proofs.Ythnimpbcfegmjaa.P Go.Proofs.Ythnimpbcfegmjaa.Model
set_option linter.unusedVariables false
set_option linter.unusedSimpArgs false

theorem dropG {α : Type} {l : List α} {i : Nat} {x : α} (h : l[i]? = some x) : l.drop i = x :: l.drop (i + 1) := by
  obtain ⟨hi, e⟩ := List.getElem?_eq_some_iff.1 h
  rw [List.drop_eq_getElem_cons hi, e]
theorem small_loop (l : List Int) (hl : l.length ≤ 1000) : ∀ (n i k : Nat), n = l.length - i → i ≤ l.length → n < k → downpourref20_small.l0 k l (l.length : Int) (i : Int) = some ((l.drop i).all smB) := by
  intro n
  induction n with
  | zero =>
    intro i k hn hi hk
    obtain ⟨k, rfl⟩ : ∃ k', k = k' + 1 := ⟨k - 1, by omega⟩
    unfold downpourref20_small.l0
    rw [if_neg (by omega), List.drop_eq_nil_of_le (by omega)]
    rfl
  | succ n ih =>
    intro i k hn hi hk
    obtain ⟨k, rfl⟩ : ∃ k', k = k' + 1 := ⟨k - 1, by omega⟩
    unfold downpourref20_small.l0
    obtain ⟨x, hx⟩ : ∃ x, l[i]? = some x := ⟨_, List.getElem?_eq_getElem (by omega)⟩
    rw [if_pos (by omega), if_pos (by omega), if_pos (by omega), rdI hx, dropG hx, List.all_cons]
    by_cases h1 : x ≤ -1073741824
    · rw [if_pos h1, show smB x = false by unfold smB; rw [decide_eq_false (by omega)]; rfl, Bool.false_and]
    · rw [if_neg h1]
      by_cases h2 : x ≥ 1073741824
      · rw [if_pos h2, show smB x = false by unfold smB; rw [decide_eq_false (show ¬ x < 1073741824 by omega), Bool.and_false], Bool.false_and]
      · rw [if_neg h2, wr1 (by omega), ih (i + 1) k (by omega) (by omega) (by omega), show smB x = true by unfold smB; rw [decide_eq_true (by omega), decide_eq_true (by omega)]; rfl, Bool.true_and]
theorem small_eq (l : List Int) (hl : l.length ≤ 1000) (k : Nat) (hk : l.length < k) : downpourref20_small.f k l = some (l.all smB) := small_loop l hl l.length 0 k rfl (Nat.zero_le _) hk
theorem instr_eq (a b c : Int) : downpourref20_instr.f a b c = some (okI ⟨a, b, c⟩) := by
  unfold downpourref20_instr.f okI inB
  dsimp only
  by_cases h1 : a ≥ 0
  · rw [if_pos h1]
    by_cases h2 : a ≤ 4
    · rw [if_pos h2]
      by_cases h3 : b ≥ 0
      · rw [if_pos h3]
        by_cases h4 : b ≤ 3
        · rw [if_pos h4]
          by_cases h5 : c ≥ -1000
          · rw [if_pos h5, decide_eq_true (show 0 ≤ a from h1), decide_eq_true h2, decide_eq_true (show 0 ≤ b from h3), decide_eq_true h4, decide_eq_true (show -1000 ≤ c from h5)]
            rfl
          · rw [if_neg h5, decide_eq_false (show ¬ -1000 ≤ c from h5)]
            simp
        · rw [if_neg h4, decide_eq_false h4]
          simp
      · rw [if_neg h3, decide_eq_false (show ¬ 0 ≤ b from h3)]
        simp
    · rw [if_neg h2, decide_eq_false h2]
      simp
  · rw [if_neg h1, decide_eq_false (show ¬ 0 ≤ a from h1)]
    simp
theorem rdS {l : List S44} {i : Nat} {x : S44} (h : l[i]? = some x) : rd_T44 l (i : Int) = x := by unfold rd_T44; rw [Int.toNat_natCast, List.getD_eq_getElem?_getD, h]; rfl
theorem thr_l1 (s : Syst) (t : Int) (row : List S44) (hr : row.length ≤ 1000) : ∀ (n i k : Nat), n = row.length - i → i ≤ row.length → downpourref20_threads.l1 (k + n + 1) s.th (s.th.length : Int) t row (row.length : Int) (i : Int) s.th s.at_ s.su s.lo s.ce s.ch = if (row.drop i).all okI = true then downpourref20_threads.l0 k s.th (s.th.length : Int) (wrap64 (t + 1)) s.th s.at_ s.su s.lo s.ce s.ch else some false := by
  intro n
  induction n with
  | zero =>
    intro i k hn hi
    unfold downpourref20_threads.l1
    rw [if_neg (by omega), List.drop_eq_nil_of_le (by omega)]
    rfl
  | succ n ih =>
    intro i k hn hi
    rw [show k + (n + 1) + 1 = (k + n + 1) + 1 by omega]
    unfold downpourref20_threads.l1
    obtain ⟨x, hx⟩ : ∃ x, row[i]? = some x := ⟨_, List.getElem?_eq_getElem (by omega)⟩
    rw [if_pos (by omega), if_pos (by omega), if_pos (by omega), rdS hx, instr_eq, Option.bind_some, dropG hx, List.all_cons]
    by_cases h : okI x = true
    · rw [if_pos h, wr1 (by omega), ih (i + 1) k (by omega) (by omega), h, Bool.true_and]
    · have h2 : okI x = false := by simpa using h
      rw [if_neg h, h2, Bool.false_and, if_neg (by decide)]
theorem thr_l0 (s : Syst) (hb : Bd s) (ha : s.at_.length = s.th.length) : ∀ (n t k : Nat), n = s.th.length - t → t ≤ s.th.length → n * 25 < k → downpourref20_threads.l0 k s.th (s.th.length : Int) (t : Int) s.th s.at_ s.su s.lo s.ce s.ch = some (((s.th.zip s.at_).drop t).all (fun p => thB p.1 p.2)) := by
  intro n
  induction n with
  | zero =>
    intro t k hn ht hk
    obtain ⟨k, rfl⟩ : ∃ k', k = k' + 1 := ⟨k - 1, by omega⟩
    unfold downpourref20_threads.l0
    rw [if_neg (by omega), List.drop_eq_nil_of_le (by rw [List.length_zip]; omega)]
    rfl
  | succ n ih =>
    intro t k hn ht hk
    have h100 := hb.n0
    obtain ⟨k, rfl⟩ : ∃ k', k = k' + 2 := ⟨k - 2, by omega⟩
    obtain ⟨l, hl⟩ : ∃ l, s.th[t]? = some l := ⟨_, List.getElem?_eq_getElem (by omega)⟩
    obtain ⟨a, hat⟩ : ∃ a, s.at_[t]? = some a := ⟨_, List.getElem?_eq_getElem (by omega)⟩
    have hz : (s.th.zip s.at_)[t]? = some (l, a) := by rw [List.getElem?_zip_eq_some]; exact ⟨hl, hat⟩
    have hll := hb.t l (List.mem_of_getElem? hl)
    have hj : ∀ k, downpourref20_threads.j2 (k + 1) l s.th (s.th.length : Int) (t : Int) true s.th s.at_ s.su s.lo s.ce s.ch = some false := fun k => by simp [downpourref20_threads.j2]
    have hj0 : ∀ k, downpourref20_threads.j2 (k + 1) l s.th (s.th.length : Int) (t : Int) false s.th s.at_ s.su s.lo s.ce s.ch = downpourref20_threads.l1 k s.th (s.th.length : Int) (t : Int) l (l.length : Int) 0 s.th s.at_ s.su s.lo s.ce s.ch := fun k => by simp [downpourref20_threads.j2]
    rw [dropG hz, List.all_cons]
    unfold downpourref20_threads.l0
    rw [if_pos (by omega), if_pos (by omega), if_pos (by omega), rdT hl]
    by_cases h1 : (l.length : Int) > 16
    · rw [if_pos h1, hj]
      have : thB l a = false := by unfold thB; rw [decide_eq_false (by omega)]; rfl
      rw [this]
      rfl
    · rw [if_neg h1, if_pos (by omega), rdI hat]
      by_cases h2 : a < 0
      · rw [if_pos h2, hj]
        have : thB l a = false := by unfold thB inB; rw [decide_eq_false (show ¬ 0 ≤ a by omega)]; simp
        rw [this]
        rfl
      · rw [if_neg h2]
        by_cases h3 : a > (l.length : Int)
        · rw [decide_eq_true h3, hj]
          have : thB l a = false := by unfold thB inB; rw [decide_eq_false (show ¬ a ≤ (l.length : Int) by omega)]; simp
          rw [this]
          rfl
        · rw [decide_eq_false h3, hj0]
          obtain ⟨k', rfl⟩ : ∃ k', k = k' + l.length + 1 := ⟨k - l.length - 1, by omega⟩
          have h4 := thr_l1 s (t : Int) l (by omega) l.length 0 k' rfl (Nat.zero_le _)
          rw [List.drop_zero] at h4
          refine h4.trans ?_
          have e : thB l a = l.all okI := by
            unfold thB inB
            rw [decide_eq_true (by omega), decide_eq_true (show 0 ≤ a by omega), decide_eq_true (show a ≤ (l.length : Int) by omega)]
            simp
          rw [e]
          by_cases h5 : l.all okI = true
          · rw [if_pos h5, wr1 (by omega), ih (t + 1) k' (by omega) (by omega) (by omega), h5, Bool.true_and]
          · have h6 : l.all okI = false := by simpa using h5
            rw [if_neg h5, h6, Bool.false_and]
def thrB (s : Syst) : Bool := decide (s.th.length ≤ 8) && (decide (s.at_.length = s.th.length) && (decide (s.su.length = s.th.length) && thsB s))
theorem thr_eq (s : Syst) (hb : Bd s) (k : Nat) (hk : 2600 < k) : downpourref20_threads.f k s.th s.at_ s.su s.lo s.ce s.ch = some (thrB s) := by
  obtain ⟨k, rfl⟩ : ∃ k', k = k' + 1 := ⟨k - 1, by omega⟩
  have hj : ∀ k, downpourref20_threads.j0 (k + 1) true s.th s.at_ s.su s.lo s.ce s.ch = some false := fun k => by simp [downpourref20_threads.j0]
  have hj0 : ∀ k, downpourref20_threads.j0 (k + 1) false s.th s.at_ s.su s.lo s.ce s.ch = downpourref20_threads.l0 k s.th (s.th.length : Int) 0 s.th s.at_ s.su s.lo s.ce s.ch := fun k => by simp [downpourref20_threads.j0]
  unfold downpourref20_threads.f thrB
  by_cases h1 : s.th.length ≤ 8
  · rw [if_neg (by omega), decide_eq_true h1, Bool.true_and]
    by_cases h2 : s.at_.length = s.th.length
    · rw [if_pos (by omega), decide_eq_true h2, Bool.true_and]
      by_cases h3 : s.su.length = s.th.length
      · rw [h3, bne_self_eq_false, hj0, decide_eq_true rfl, Bool.true_and]
        exact thr_l0 s hb h2 s.th.length 0 k rfl (Nat.zero_le _) (by have := hb.n0; omega)
      · have e : ((s.su.length : Int) != (s.th.length : Int)) = true := by simp; omega
        rw [e, hj, decide_eq_false h3, Bool.false_and]
    · rw [if_neg (by omega), hj, decide_eq_false h2, Bool.false_and]
  · rw [if_pos (by omega), hj, decide_eq_false h1, Bool.false_and]
def chaB (s : Syst) : Bool := s.ch.all (fun l => decide (l.length ≤ 2) && l.all smB)
theorem rig_l1 (s : Syst) (hb : Bd s) : ∀ (n i k : Nat), n = s.ch.length - i → i ≤ s.ch.length → n + 200 < k → downpourref20_Right.l1 k s.ch (s.ch.length : Int) (i : Int) = some ((s.ch.drop i).all (fun l => decide (l.length ≤ 2) && l.all smB)) := by
  intro n
  induction n with
  | zero =>
    intro i k hn hi hk
    obtain ⟨k, rfl⟩ : ∃ k', k = k' + 1 := ⟨k - 1, by omega⟩
    unfold downpourref20_Right.l1
    rw [if_neg (by omega), List.drop_eq_nil_of_le (by omega)]
    rfl
  | succ n ih =>
    intro i k hn hi hk
    have h100 := hb.n5
    obtain ⟨k, rfl⟩ : ∃ k', k = k' + 1 := ⟨k - 1, by omega⟩
    obtain ⟨x, hx⟩ : ∃ x, s.ch[i]? = some x := ⟨_, List.getElem?_eq_getElem (by omega)⟩
    have ex : rd_L3 s.ch (i : Int) = x := by unfold rd_L3; rw [Int.toNat_natCast, List.getD_eq_getElem?_getD, hx]; rfl
    have hxl := hb.c x (List.mem_of_getElem? hx)
    unfold downpourref20_Right.l1
    rw [if_pos (by omega), if_pos (by omega), if_pos (by omega), ex, dropG hx, List.all_cons]
    by_cases h1 : (x.length : Int) > 2
    · rw [if_pos h1, decide_eq_false (show ¬ x.length ≤ 2 by omega), Bool.false_and, Bool.false_and]
    · rw [if_neg h1, small_eq x (by omega) k (by omega), Option.bind_some, decide_eq_true (show x.length ≤ 2 by omega), Bool.true_and]
      by_cases h2 : x.all smB = true
      · rw [if_pos h2, wr1 (by omega), ih (i + 1) k (by omega) (by omega) (by omega), h2, Bool.true_and]
      · have h3 : x.all smB = false := by simpa using h2
        rw [if_neg h2, h3, Bool.false_and]
theorem rig_l0 (s : Syst) (hb : Bd s) : ∀ (n i k : Nat), n = s.lo.length - i → i ≤ s.lo.length → n + 400 < k → downpourref20_Right.l0 k s.lo (s.lo.length : Int) (i : Int) s.th s.at_ s.su s.lo s.ce s.ch = some ((s.lo.drop i).all (fun x => inB x (-1) ((s.th.length : Int) - 1)) && chaB s) := by
  intro n
  induction n with
  | zero =>
    intro i k hn hi hk
    obtain ⟨k, rfl⟩ : ∃ k', k = k' + 1 := ⟨k - 1, by omega⟩
    unfold downpourref20_Right.l0
    have h := rig_l1 s hb s.ch.length 0 k rfl (Nat.zero_le _) (by have := hb.n5; omega)
    rw [if_neg (by omega), List.drop_eq_nil_of_le (by omega)]
    exact h
  | succ n ih =>
    intro i k hn hi hk
    have h100 := hb.n3
    obtain ⟨k, rfl⟩ : ∃ k', k = k' + 1 := ⟨k - 1, by omega⟩
    obtain ⟨x, hx⟩ : ∃ x, s.lo[i]? = some x := ⟨_, List.getElem?_eq_getElem (by omega)⟩
    unfold downpourref20_Right.l0
    rw [if_pos (by omega), if_pos (by omega), if_pos (by omega), rdI hx, dropG hx, List.all_cons]
    by_cases h1 : x < -1
    · rw [if_pos h1]
      unfold inB
      rw [decide_eq_false (show ¬ -1 ≤ x by omega)]
      simp
    · rw [if_neg h1]
      by_cases h2 : x ≥ (s.th.length : Int)
      · rw [if_pos h2]
        have : inB x (-1) ((s.th.length : Int) - 1) = false := by unfold inB; rw [decide_eq_false (show ¬ x ≤ (s.th.length : Int) - 1 by omega), Bool.and_false]
        rw [this, Bool.false_and, Bool.false_and]
      · rw [if_neg h2, wr1 (by omega), ih (i + 1) k (by omega) (by omega) (by omega)]
        have : inB x (-1) ((s.th.length : Int) - 1) = true := by unfold inB; rw [decide_eq_true (show -1 ≤ x by omega), decide_eq_true (show x ≤ (s.th.length : Int) - 1 by omega)]; rfl
        rw [this, Bool.true_and]
theorem flat_all (l : List (List Int)) : l.flatten.all smB = l.all (fun x => x.all smB) := by
  induction l with
  | nil => rfl
  | cons x l ih => rw [List.flatten_cons, List.all_append, ih, List.all_cons]
theorem cha_eq (l : List (List Int)) : l.all (fun x => decide (x.length ≤ 2) && x.all smB) = (l.all (fun x => decide (x.length ≤ 2)) && l.all (fun x => x.all smB)) := by
  induction l with
  | nil => rfl
  | cons x l ih =>
    rw [List.all_cons, List.all_cons, List.all_cons, ih]
    cases decide (x.length ≤ 2) <;> cases x.all smB <;> simp
theorem right_all (s : Syst) : rightB s = (thrB s && (decide (s.lo.length = 4) && (decide (s.ce.length = 4) && (decide (s.ch.length = 4) && (s.su.all smB && (s.ce.all smB && (loB s && chaB s))))))) := by
  have h1 : numB s = (s.su.all smB && (s.ce.all smB && s.ch.all (fun x => x.all smB))) := by
    unfold numB
    rw [List.all_append, List.all_append, flat_all, Bool.and_assoc]
  unfold rightB lenB thrB chaB chB
  rw [h1, cha_eq]
  cases decide (s.th.length ≤ 8) <;> cases decide (s.at_.length = s.th.length) <;> cases decide (s.su.length = s.th.length) <;> cases decide (s.lo.length = 4) <;> cases decide (s.ce.length = 4) <;> cases decide (s.ch.length = 4) <;> cases thsB s <;> cases loB s <;> cases s.su.all smB <;> cases s.ce.all smB <;> cases s.ch.all (fun x => decide (x.length ≤ 2)) <;> cases s.ch.all (fun x => x.all smB) <;> rfl
theorem right_f (s : Syst) (hb : Bd s) : downpourref20_Right.f 4000 s.th s.at_ s.su s.lo s.ce s.ch = some (rightB s) := by
  have hj : ∀ k, downpourref20_Right.j0 (k + 1) true s.th s.at_ s.su s.lo s.ce s.ch = some false := fun k => by simp [downpourref20_Right.j0]
  have hj0 : ∀ k, downpourref20_Right.j0 (k + 1) false s.th s.at_ s.su s.lo s.ce s.ch = downpourref20_Right.l0 k s.lo (s.lo.length : Int) 0 s.th s.at_ s.su s.lo s.ce s.ch := fun k => by simp [downpourref20_Right.j0]
  have hjt := hj 3999
  have hjf := hj0 3999
  rw [right_all]
  unfold downpourref20_Right.f
  rw [thr_eq s hb 4000 (by decide), Option.bind_some]
  cases h0 : thrB s with
  | false => rw [if_neg (by decide)]; exact hjt
  | true =>
    rw [if_pos rfl, Bool.true_and]
    by_cases h1 : s.lo.length = 4
    · rw [if_pos (by omega), decide_eq_true h1, Bool.true_and]
      by_cases h2 : s.ce.length = 4
      · rw [if_pos (by omega), decide_eq_true h2, Bool.true_and]
        by_cases h3 : s.ch.length = 4
        · rw [if_pos (by omega), decide_eq_true h3, Bool.true_and, small_eq s.su (by have := hb.n2; omega) 4000 (by have := hb.n2; omega), Option.bind_some]
          cases h4 : s.su.all smB with
          | false => rw [if_neg (by decide)]; exact hjt
          | true =>
            rw [if_pos rfl, Bool.true_and, small_eq s.ce (by omega) 4000 (by omega), Option.bind_some]
            cases h5 : s.ce.all smB with
            | false => exact hjt
            | true =>
              rw [Bool.true_and]
              exact hjf.trans (rig_l0 s hb s.lo.length 0 3999 rfl (Nat.zero_le _) (by omega))
        · rw [if_neg (by omega), decide_eq_false h3, Bool.false_and]; exact hjt
      · rw [if_neg (by omega), decide_eq_false h2, Bool.false_and]; exact hjt
    · rw [if_neg (by omega), decide_eq_false h1, Bool.false_and]; exact hjt
end Go.Proofs.Ythnimpbcfegmjaa.Own

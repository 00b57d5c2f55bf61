/-
  Plain: what the printed Same, Numbers, Contains answer at what is the same; runs in parts.
-/
import Derived.Test.YthnimpbcfegmjaaS16
import Derived.Test.YthnimpbcfegmjaaPx7
import Derived.Test.YthnimpbcfegmjaaPx8
import Derived.Test.YthnimpbcfegmjaaPx9
import Derived.Test.YthnimpbcfegmjaaPx13
namespace Go.Proofs.Ythnimpbcfegmjaa.Own
open Go.RowKit Go.Proofs.YthnimpbcfegmjaaW.PrintWords Go.Proofs.YthnimpbcfegmjaaW.PrintLast Go.Proofs.YthnimpbcfegmjaaW.PrintMore Go.Proofs.Ythnimpbcfegmjaa.P Go.Proofs.Ythnimpbcfegmjaa.Model
set_option linter.unusedVariables false
set_option linter.unusedSimpArgs false

theorem wr1 {i : Nat} (h : i ≤ 1000000) : wrap64 ((i : Int) + 1) = ((i + 1 : Nat) : Int) := by unfold wrap64; omega
theorem num_loop (l : List Int) (hl : l.length ≤ 1000) : ∀ (n i k : Nat), n = l.length - i → i ≤ l.length → n < k → downpourref01_Numbers.l0 k l l (l.length : Int) (i : Int) = some true := by
  intro n
  induction n with
  | zero =>
    intro i k hn hi hk
    obtain ⟨k, rfl⟩ : ∃ k', k = k' + 1 := ⟨k - 1, by omega⟩
    unfold downpourref01_Numbers.l0
    rw [if_neg (by omega)]
  | succ n ih =>
    intro i k hn hi hk
    obtain ⟨k, rfl⟩ : ∃ k', k = k' + 1 := ⟨k - 1, by omega⟩
    unfold downpourref01_Numbers.l0
    rw [if_pos (by omega), if_pos (by omega), if_pos (by omega), if_pos (by omega), if_pos rfl, wr1 (by omega)]
    exact ih (i + 1) k (by omega) (by omega) (by omega)
theorem num_refl (l : List Int) (hl : l.length ≤ 1000) (k : Nat) (hk : l.length < k) : downpourref01_Numbers.f k l l = some true := by
  unfold downpourref01_Numbers.f
  rw [if_pos rfl]
  exact num_loop l hl l.length 0 k rfl (Nat.zero_le _) hk
theorem ins_loop (l : List S44) (hl : l.length ≤ 1000) : ∀ (n i k : Nat), n = l.length - i → i ≤ l.length → n < k → downpourref20_instrs.l0 k l l (l.length : Int) (i : Int) = some true := by
  intro n
  induction n with
  | zero =>
    intro i k hn hi hk
    obtain ⟨k, rfl⟩ : ∃ k', k = k' + 1 := ⟨k - 1, by omega⟩
    unfold downpourref20_instrs.l0
    rw [if_neg (by omega)]
  | succ n ih =>
    intro i k hn hi hk
    obtain ⟨k, rfl⟩ : ∃ k', k = k' + 1 := ⟨k - 1, by omega⟩
    unfold downpourref20_instrs.l0
    rw [if_pos (by omega), if_pos (by omega), if_pos (by omega), if_pos (by omega), if_neg (by simp), wr1 (by omega)]
    exact ih (i + 1) k (by omega) (by omega) (by omega)
theorem ins_refl (l : List S44) (hl : l.length ≤ 1000) (k : Nat) (hk : l.length < k) : downpourref20_instrs.f k l l = some true := by
  unfold downpourref20_instrs.f
  rw [if_pos rfl]
  exact ins_loop l hl l.length 0 k rfl (Nat.zero_le _) hk
theorem same_l1 (s : Syst) (h : Bd s) : ∀ (n i k : Nat), n = s.ch.length - i → i ≤ s.ch.length → n + 200 < k → downpourref20_Same.l1 k (s.ch.length : Int) (i : Int) s.th s.at_ s.su s.lo s.ce s.ch s.th s.at_ s.su s.lo s.ce s.ch = some true := by
  intro n
  induction n with
  | zero =>
    intro i k hn hi hk
    obtain ⟨k, rfl⟩ : ∃ k', k = k' + 1 := ⟨k - 1, by omega⟩
    unfold downpourref20_Same.l1
    have h1 := h.n1
    have h2 := h.n2
    have h3 := h.n3
    have h4 := h.n4
    rw [if_neg (by omega), num_refl s.at_ (by omega) k (by omega), Option.bind_some, if_pos rfl, num_refl s.su (by omega) k (by omega), Option.bind_some, if_pos rfl, num_refl s.lo (by omega) k (by omega), Option.bind_some, if_pos rfl, num_refl s.ce (by omega) k (by omega), Option.bind_some]
  | succ n ih =>
    intro i k hn hi hk
    obtain ⟨k, rfl⟩ : ∃ k', k = k' + 1 := ⟨k - 1, by omega⟩
    unfold downpourref20_Same.l1
    have h5 := h.n5
    have hlt : i < s.ch.length := by omega
    have hrow : rd_L3 s.ch (i : Int) ∈ s.ch := by
      unfold rd_L3
      rw [Int.toNat_natCast, List.getD_eq_getElem?_getD, List.getElem?_eq_getElem hlt]
      exact List.getElem_mem hlt
    have hrl := h.c _ hrow
    rw [if_pos (by omega), if_pos (by omega), if_pos (by omega), if_pos (by omega), num_refl _ (by omega) k (by omega), Option.bind_some, if_pos rfl, wr1 (by omega)]
    exact ih (i + 1) k (by omega) (by omega) (by omega)
theorem same_l0 (s : Syst) (h : Bd s) : ∀ (n i k : Nat), n = s.th.length - i → i ≤ s.th.length → n + 400 < k → downpourref20_Same.l0 k (s.th.length : Int) (i : Int) s.th s.at_ s.su s.lo s.ce s.ch s.th s.at_ s.su s.lo s.ce s.ch = some true := by
  intro n
  induction n with
  | zero =>
    intro i k hn hi hk
    obtain ⟨k, rfl⟩ : ∃ k', k = k' + 1 := ⟨k - 1, by omega⟩
    unfold downpourref20_Same.l0
    rw [if_neg (by omega)]
    exact same_l1 s h s.ch.length 0 k rfl (Nat.zero_le _) (by have := h.n5; omega)
  | succ n ih =>
    intro i k hn hi hk
    obtain ⟨k, rfl⟩ : ∃ k', k = k' + 1 := ⟨k - 1, by omega⟩
    unfold downpourref20_Same.l0
    have h5 := h.n0
    have hlt : i < s.th.length := by omega
    have hrow : rd_L2 s.th (i : Int) ∈ s.th := by
      unfold rd_L2
      rw [Int.toNat_natCast, List.getD_eq_getElem?_getD, List.getElem?_eq_getElem hlt]
      exact List.getElem_mem hlt
    have hrl := h.t _ hrow
    rw [if_pos (by omega), if_pos (by omega), if_pos (by omega), if_pos (by omega), ins_refl _ (by omega) k (by omega), Option.bind_some, if_pos rfl, wr1 (by omega)]
    exact ih (i + 1) k (by omega) (by omega) (by omega)
theorem same_refl (s : Syst) (h : Bd s) : downpourref20_Same.f 1000 s.th s.at_ s.su s.lo s.ce s.ch s.th s.at_ s.su s.lo s.ce s.ch = some true := by
  unfold downpourref20_Same.f
  rw [if_pos rfl, bne_self_eq_false]
  have hj : ∀ k, downpourref20_Same.j0 (k + 1) false s.th s.at_ s.su s.lo s.ce s.ch s.th s.at_ s.su s.lo s.ce s.ch = downpourref20_Same.l0 k (s.th.length : Int) 0 s.th s.at_ s.su s.lo s.ce s.ch s.th s.at_ s.su s.lo s.ce s.ch := fun k => by
    simp [downpourref20_Same.j0]
  exact (hj 999).trans (same_l0 s h s.th.length 0 _ rfl (Nat.zero_le _) (by have := h.n0; omega))
theorem idx_loop (l : List Int) (a : Int) (hl : l.length ≤ 1000) : ∀ (n i k : Nat), n = l.length - i → i ≤ l.length → n < k → (∃ j, i ≤ j ∧ l[j]? = some a) → ∃ r : Int, 0 ≤ r ∧ slices_Index_int_int.l0 k l a (l.length : Int) (i : Int) = some r := by
  intro n
  induction n with
  | zero =>
    intro i k hn hi hk ⟨j, hj, ha⟩
    have := (List.getElem?_eq_some_iff.1 ha).1
    omega
  | succ n ih =>
    intro i k hn hi hk ⟨j, hj, ha⟩
    obtain ⟨k, rfl⟩ : ∃ k', k = k' + 1 := ⟨k - 1, by omega⟩
    unfold slices_Index_int_int.l0
    rw [if_pos (by omega), if_pos (by omega), if_pos (by omega)]
    by_cases h : a = rd l (i : Int)
    · rw [if_pos h]
      exact ⟨i, by omega, rfl⟩
    · rw [if_neg h, wr1 (by omega)]
      refine ih (i + 1) k (by omega) (by omega) (by omega) ⟨j, ?_, ha⟩
      rcases Nat.lt_or_ge i j with h1 | h1
      · exact h1
      · have e : i = j := by omega
        subst e
        exact absurd (rdI ha).symm h
theorem cont_mem (l : List Int) (a : Int) (hl : l.length ≤ 999) (h : a ∈ l) : slices_Contains_int_int.f 1000 l a = some true := by
  unfold slices_Contains_int_int.f slices_Index_int_int.f
  obtain ⟨j, hj⟩ := List.mem_iff_getElem?.1 h
  obtain ⟨r, hr, e⟩ := idx_loop l a (by omega) l.length 0 1000 rfl (Nat.zero_le _) (by omega) ⟨j, Nat.zero_le _, hj⟩
  rw [show ((0 : Nat) : Int) = 0 from rfl] at e
  rw [e, Option.bind_some]
  simp [hr]
theorem shp_bd {s : Syst} (h : Shp s) : Bd s := by
  have h1 := h.n
  have h2 := h.at_
  have h3 := h.su
  have h4 := h.lo
  have h5 := h.ce
  have h6 := h.ch
  refine ⟨by omega, by omega, by omega, by omega, by omega, by omega, fun t ht => ?_, fun t ht => ?_⟩
  · obtain ⟨j, hj⟩ := List.mem_iff_getElem?.1 ht
    have hlt := (List.getElem?_eq_some_iff.1 hj).1
    have := (h.th j t _ hj (List.getElem?_eq_getElem (by omega))).1
    omega
  · have := h.chs t ht
    omega
theorem few_bd (s : Syst) : Bd (fewS s) := by
  refine ⟨?_, ?_, ?_, ?_, ?_, ?_, fun t ht => ?_, fun t ht => ?_⟩
  · show (rowsL s.th).length ≤ 100; have := rowsL_len s.th; omega
  · show (cut12 s.at_).length ≤ 100; rw [cut12_len]; omega
  · show (cut12 s.su).length ≤ 100; rw [cut12_len]; omega
  · show (cut12 s.lo).length ≤ 100; rw [cut12_len]; omega
  · show (cut12 s.ce).length ≤ 100; rw [cut12_len]; omega
  · show ((s.ch.take 6).map cut12).length ≤ 100; rw [List.length_map, List.length_take]; omega
  · have ht2 : t ∈ (s.th.take 10).map (fun t => t.take 18) := ht
    obtain ⟨y, -, rfl⟩ := List.mem_map.1 ht2
    rw [List.length_take]; omega
  · have ht2 : t ∈ (s.ch.take 6).map cut12 := ht
    obtain ⟨y, -, rfl⟩ := List.mem_map.1 ht2
    rw [cut12_len]; omega
theorem pick1_acc (s : Syst) (w w0 : List Int) (q : Int) : pick1 (s, w0 ++ w) q = ((pick1 (s, w) q).1, w0 ++ (pick1 (s, w) q).2) := by
  unfold pick1
  dsimp only
  split
  · rfl
  · simp
theorem fold_acc (l : List Int) : ∀ (s : Syst) (w w0 : List Int), l.foldl pick1 (s, w0 ++ w) = ((l.foldl pick1 (s, w)).1, w0 ++ (l.foldl pick1 (s, w)).2) := by
  induction l with
  | nil => intro s w w0; rfl
  | cons q l ih =>
    intro s w w0
    rw [List.foldl_cons, List.foldl_cons, pick1_acc]
    exact ih (pick1 (s, w) q).1 (pick1 (s, w) q).2 w0
theorem runS_append (s : Syst) (l m : List Int) : runS s (l ++ m) = ((runS (runS s l).1 m).1, (runS s l).2 ++ (runS (runS s l).1 m).2) := by
  unfold runS
  rw [List.foldl_append]
  have h := fold_acc m (l.foldl pick1 (s, [])).1 [] (l.foldl pick1 (s, [])).2
  rw [List.append_nil] at h
  exact h
/-- Behind steps of these threads. -/
def goS (s : Syst) (w : List Int) : Syst := w.foldl (fun s t => stepN s t.toNat) s
structure Went (s : Syst) (r : Syst × List Int) : Prop where
  go : goS s r.2 = r.1
  can : ∀ (j : Nat) (t : Int), r.2[j]? = some t → t ∈ enL (goS s (r.2.take j))
theorem went_pick {s : Syst} {r : Syst × List Int} (h : Went s r) (q : Int) : Went s (pick1 r q) := by
  by_cases he : enL r.1 = []
  · rw [pick1_stop he]; exact h
  · rw [pick1_go he]
    refine ⟨?_, fun j t hj => ?_⟩
    · show goS s (r.2 ++ [_]) = _
      unfold goS
      rw [List.foldl_append]
      show stepN (goS s r.2) _ = _
      rw [h.go]
      rfl
    · dsimp only at hj ⊢
      by_cases hlt : j < r.2.length
      · rw [List.getElem?_append_left hlt] at hj
        rw [List.take_append_of_le_length (by omega)]
        exact h.can j t hj
      · rw [List.getElem?_append_right (by omega)] at hj
        have hj0 : j - r.2.length = 0 := by
          have := (List.getElem?_eq_some_iff.1 hj).1
          simp at this
          omega
        rw [hj0] at hj
        have ht : (pickT r.1 q : Int) = t := by simpa using hj
        have e : j = r.2.length := by omega
        subst e
        rw [List.take_left', h.go, ← ht]
        · exact (pickT_mem q he).1
        · rfl
theorem went_run (s : Syst) (l : List Int) : Went s (runS s l) := by
  have : ∀ (l : List Int) (r : Syst × List Int), Went s r → Went s (l.foldl pick1 r) := by
    intro l
    induction l with
    | nil => intro r h; exact h
    | cons q l ih => intro r h; exact ih _ (went_pick h q)
  exact this l _ ⟨rfl, fun j t hj => by simp at hj⟩
theorem goS_succ {s : Syst} {w : List Int} {j : Nat} {t : Int} (h : w[j]? = some t) : goS s (w.take (j + 1)) = stepN (goS s (w.take j)) t.toNat := by
  unfold goS
  rw [List.take_add_one, h, List.foldl_append]
  rfl
theorem goS_shp {s : Syst} {l : List Int} (hS : Shp s) : ∀ j, j ≤ (runS s l).2.length → Shp (goS s ((runS s l).2.take j)) := by
  intro j
  induction j with
  | zero => intro _; exact hS
  | succ j ih =>
    intro hj
    obtain ⟨t, ht⟩ : ∃ t, (runS s l).2[j]? = some t := ⟨_, List.getElem?_eq_getElem (by omega)⟩
    rw [goS_succ ht]
    obtain ⟨n, e, h1, h2⟩ := mem_enL ((went_run s l).can j t ht)
    subst e
    exact stepN_shp (ih (by omega)) (by simpa using h2)
theorem xStep_of {s : Syst} {t : Int} (hr : rightB s = true) (ht : t ∈ enL s) : xStep s t = (stepN s t.toNat, 0) := by
  obtain ⟨n, e, h1, h2⟩ := mem_enL ht
  subst e
  unfold xStep
  rw [hr, if_neg (by decide), if_neg, if_neg]
  · rw [Int.toNat_natCast, h2]; decide
  · simp [inB]
    omega
end Go.Proofs.Ythnimpbcfegmjaa.Own

/-
  DegreeTables, the pure law: any number's root, and any blocks' weights and table, are as the reference says, or refused. For every input.
-/
import Derived.Test.YtjgcfdiicjbdoaaNums
import Derived.Test.YtjgcfdiicjbdoaaQx2
namespace Go.Proofs.Ytjgcfdiicjbdoaa.Pure
open Go.RowKit Go.Proofs.Ytjgcfdiicjbdoaa.Own Go.Proofs.Ytjgcfdiicjbdoaa.P Go.Proofs.Ytjgcfdiicjbdoaa.Q Go.Proofs.YtjgcfdiicjbdoaaW.PrintWords Go.Proofs.YtjgcfdiicjbdoaaW.PrintLast

theorem refRoot_l0 (x0 : Int) (d : Nat) : ∀ (k : Nat) (low high : Int), d ≤ 16 → d < k → 0 ≤ low → low < high → high - low ≤ 2 ^ d → high ≤ 46341 → low * low ≤ x0 → x0 < high * high →
    ∃ r, downpourref07_Root.l0 k x0 low high = some r ∧ IsRoot x0 r := by
  induction d with
  | zero =>
    intro k low high _ hk h0 h1 h2 h3 h4 h5
    obtain ⟨k, rfl⟩ : ∃ m, k = m + 1 := ⟨k - 1, by omega⟩
    have e : high = low + 1 := by simp at h2; omega
    subst e
    refine ⟨low, ?_, h0, h4, h5⟩
    have hw : wrap64 (low + 1 - low) = 1 := by unfold wrap64; omega
    simp only [downpourref07_Root.l0]
    rw [hw, if_neg (by decide)]
  | succ d ih =>
    intro k low high hd hk h0 h1 h2 h3 h4 h5
    obtain ⟨k, rfl⟩ : ∃ m, k = m + 1 := ⟨k - 1, by omega⟩
    have hw : wrap64 (high - low) = high - low := by unfold wrap64; omega
    by_cases hg : high - low > 1
    · have e1 : wrap64 (low + high) = low + high := by unfold wrap64; omega
      have e2 : Int.tdiv (low + high) 2 = (low + high) / 2 := Int.tdiv_eq_ediv_of_nonneg (by omega)
      obtain ⟨m, hm⟩ : ∃ m, (low + high) / 2 = m := ⟨_, rfl⟩
      have e3 : wrap64 m = m := by unfold wrap64; omega
      have hb := sq_le (a := m) (b := 46341) (by omega) (by omega)
      have hb0 := sq_le (a := 0) (b := m) (by omega) (by omega)
      have e4 : wrap64 (m * m) = m * m := by
        generalize m * m = z at hb hb0 ⊢
        unfold wrap64; omega
      simp only [downpourref07_Root.l0]
      rw [hw, if_pos hg, e1, e2, hm, e3, e4]
      clear hw e1 e2 e3 e4
      rw [Int.pow_succ] at h2
      by_cases hc : m * m ≤ x0
      · rw [if_pos hc]
        exact ih k m high (by omega) (by omega) (by omega) (by omega) (by omega) h3 hc h5
      · rw [if_neg hc]
        exact ih k low m (by omega) (by omega) h0 (by omega) (by omega) (by omega) h4 (by omega)
    · simp only [downpourref07_Root.l0]
      rw [hw, if_neg hg]
      obtain rfl : high = low + 1 := by omega
      exact ⟨low, rfl, h0, h4, h5⟩
theorem refRoot_f (x : Int) (h0 : 0 ≤ x) (h1 : x ≤ 2147483647) (k : Nat) (hk : 16 < k) : ∃ r, downpourref07_Root.f k x = some r ∧ IsRoot x r := by
  unfold downpourref07_Root.f
  exact refRoot_l0 x 16 k 0 46341 (by decide) hk (by decide) (by decide) (by decide) (by decide) (by omega) (by
    have : (46341 : Int) * 46341 = 2147488281 := by decide
    omega)

theorem same_l0 (l : List Int) (hl : l.length ≤ 9223372036854775000) (d : Nat) : ∀ (k i : Nat), i + d = l.length → d < k → downpourref07_Same.l0 k l l (l.length : Int) i = some true := by
  induction d with
  | zero =>
    intro k i hi hk
    obtain ⟨k, rfl⟩ : ∃ m, k = m + 1 := ⟨k - 1, by omega⟩
    simp only [downpourref07_Same.l0]
    rw [if_neg (by omega)]
  | succ d ih =>
    intro k i hi hk
    obtain ⟨k, rfl⟩ : ∃ m, k = m + 1 := ⟨k - 1, by omega⟩
    have hw : wrap64 ((i : Int) + 1) = ((i + 1 : Nat) : Int) := by unfold wrap64; omega
    have h := ih k (i + 1) (by omega) (by omega)
    simp only [downpourref07_Same.l0]
    rw [hw, h, if_pos (by omega), if_pos (by omega), if_pos (by omega), if_pos (by omega), if_pos trivial]
theorem same_f (l : List Int) (hl : l.length ≤ 9223372036854775000) (k : Nat) (hk : l.length < k) : downpourref07_Same.f k l l = some true := by
  unfold downpourref07_Same.f
  rw [if_pos rfl]
  exact same_l0 l hl l.length k 0 (by omega) hk

theorem tables_j2_no (k : Nat) (x0 : Int) : downpourlaw07_DegreeTables.j2 (k + 1) x0 [] 2 [] 2 true = some true := by
  simp only [downpourlaw07_DegreeTables.j2]
  rw [if_pos trivial, if_pos trivial, if_pos trivial]
  decide +kernel

/-- Behind the root. -/
theorem tables_j1 (x0 : Int) (h : 1 ≤ x0 ∧ x0 ≤ 64) (t : Int) (ft : Facts x0.toNat t) :
    downpourlaw07_DegreeTables.j1 102 x0 (wl x0.toNat t.toNat) 0 (rs (wl x0.toNat t.toNat)).1 0 false = some true := by
  obtain ⟨n, rfl⟩ := Int.eq_ofNat_of_zero_le (show 0 ≤ x0 by omega)
  have e : (n : Int).toNat = n := rfl
  rw [e] at ft ⊢
  simp only [downpourlaw07_DegreeTables.j1]
  rw [if_neg (by decide), if_neg (by omega), decide_eq_false (show ¬ ((n : Int) > 64) by omega)]
  simp only [downpourlaw07_DegreeTables.j2]
  have hl : (wl n t.toNat).length = n := wl_length _ _
  have hl2 : (rs (wl n t.toNat)).1.length = n := by rw [rs_len, hl]
  rw [if_neg (by decide), if_pos trivial, if_pos trivial, ft.weights, Option.bind_some, same_f _ (by omega) 100 (by omega), Option.bind_some, if_pos rfl, ft.table, Option.bind_some, same_f _ (by omega) 100 (by omega), Option.bind_some]
theorem tables_j1_no (x0 : Int) (h : ¬ (1 ≤ x0 ∧ x0 ≤ 64)) : downpourlaw07_DegreeTables.j1 102 x0 [] 2 [] 2 false = some true := by
  simp only [downpourlaw07_DegreeTables.j1]
  rw [if_neg (by decide)]
  by_cases h1 : x0 < 1
  · rw [if_pos h1]; exact tables_j2_no _ _
  · rw [if_neg h1, decide_eq_true (show x0 > 64 by omega)]; exact tables_j2_no _ _

theorem DegreeTables : downpourlaw07_DegreeTables.Pure := by
  intro a0 a1 _ hw1
  refine ⟨103, ?_⟩
  unfold downpourlaw07_DegreeTables.f
  -- what is behind the root's part
  have rest : ∃ (w : List Int) (e : Int) (t : List Int) (g : Int), degree_Weights.f a0 = some (w, e) ∧ degree_Table.f a0 = some (t, g) ∧ downpourlaw07_DegreeTables.j1 102 a0 w e t g false = some true := by
    unfold degree_Weights.f degree_Table.f
    by_cases hs : 1 ≤ a0 ∧ a0 ≤ 64
    · obtain ⟨t, ft⟩ := facts a0.toNat (by omega) (by omega)
      have hr := ft.root
      rw [show ((a0.toNat : Nat) : Int) = a0 by omega] at hr
      rw [if_pos hs, if_pos hs, hr, Option.bind_some, Option.bind_some]
      exact ⟨_, _, _, _, rfl, rfl, tables_j1 a0 hs t ft⟩
    · rw [if_neg hs, if_neg hs]
      exact ⟨_, _, _, _, rfl, rfl, tables_j1_no a0 hs⟩
  obtain ⟨w, e, t, g, h1, h2, h3⟩ := rest
  by_cases hn : 0 ≤ a1 ∧ a1 ≤ 2147483647
  · obtain ⟨r, hr, ir⟩ := Root_f a1 hn.1 hn.2 103 (by decide)
    obtain ⟨s, hs, is⟩ := refRoot_f a1 hn.1 hn.2 102 (by decide)
    obtain rfl := root_one ir is
    rw [hr, Option.bind_some, h1, Option.bind_some, h2, Option.bind_some, if_pos (show a1 ≥ 0 from hn.1), decide_eq_true hn.2]
    simp only [downpourlaw07_DegreeTables.j0]
    rw [if_pos trivial, if_pos trivial, hs, Option.bind_some, if_pos rfl, alive07, Option.bind_some]
    exact h3
  · have hr : degree_Root.f 103 a1 = some (0, 2) := by
      unfold degree_Root.f
      by_cases h : a1 < 0
      · rw [if_pos h]
      · rw [if_neg h, if_pos (by omega)]
    rw [hr, Option.bind_some, h1, Option.bind_some, h2, Option.bind_some]
    have h4 : downpourlaw07_DegreeTables.j0 103 a0 a1 0 2 w e t g false = some true := by
      simp only [downpourlaw07_DegreeTables.j0]
      rw [if_neg (by decide), if_pos trivial, if_pos trivial, alive07, Option.bind_some]
      exact h3
    by_cases h : a1 ≥ 0
    · rw [if_pos h, decide_eq_false (by omega)]; exact h4
    · rw [if_neg h]; exact h4

end Go.Proofs.Ytjgcfdiicjbdoaa.Pure

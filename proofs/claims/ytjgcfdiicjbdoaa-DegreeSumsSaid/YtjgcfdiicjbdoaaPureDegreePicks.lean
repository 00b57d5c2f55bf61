/-
  DegreePicks, the pure law: the degree that any number picks of any table is as the reference says, or refused. For every input.
-/
import Derived.Test.YtjgcfdiicjbdoaaPx2
import Derived.OpenShut
namespace Go.Proofs.Ytjgcfdiicjbdoaa.Pure
open Go.RowKit Go.Proofs.Ytjgcfdiicjbdoaa.Own Go.Proofs.Ytjgcfdiicjbdoaa.P Go.Proofs.YtjgcfdiicjbdoaaW.PrintWords Go.Proofs.YtjgcfdiicjbdoaaW.PrintLast

theorem rd_nat (l : List Int) (i : Nat) : rd l (i : Int) = l.getD i 0 := rfl
theorem Pick_f (l : List Int) (n : Int) (h : ∀ x ∈ l, 0 ≤ x) (hn : 0 ≤ n) (hl : l.length ≤ 9223372036854775807) :
    degree_Pick.f l n = some (if okT l then (1 + ((below (n % l.getD (l.length - 1) 0) l : Nat) : Int), 0) else (0, 1)) := by
  unfold degree_Pick.f
  rw [if_pos ⟨hn, h, hl⟩]
  split <;> rfl
theorem alive07 : downpourlaw07_alive.f = some true := by
  unfold downpourlaw07_alive.f
  rw [Pick_f _ _ (by simp) (by decide) (by decide), Option.bind_some, if_pos (by decide +kernel)]
  rfl

theorem right_l0 (l : List Int) (hl : l.length ≤ 9223372036854775000) (d : Nat) : ∀ (k i : Nat), i + d = l.length → d < k →
    ∃ b, downpourref07_Right.l0 k l l (l.length : Int) i = some b ∧ (b = true ↔ (i = 0 → 0 < l.length → l.getD 0 0 ≠ 0) ∧ (∀ j, i ≤ j + 1 → j + 1 < l.length → l.getD j 0 < l.getD (j + 1) 0) ∧ 1 ≤ l.length ∧ l.length ≤ 64) := by
  induction d with
  | zero =>
    intro k i hi hk
    obtain ⟨k, rfl⟩ : ∃ m, k = m + 1 := ⟨k - 1, by omega⟩
    simp only [downpourref07_Right.l0]
    rw [if_neg (by omega)]
    by_cases h1 : 1 ≤ l.length
    · rw [if_pos (by omega)]
      refine ⟨_, rfl, ?_⟩
      rw [decide_eq_true_iff]
      constructor
      · intro h
        exact ⟨fun h => by omega, fun j h1 h2 => by omega, h1, by omega⟩
      · intro h; omega
    · rw [if_neg (by omega)]
      exact ⟨false, rfl, by simp; omega⟩
  | succ d ih =>
    intro k i hi hk
    obtain ⟨k, rfl⟩ : ∃ m, k = m + 1 := ⟨k - 1, by omega⟩
    have hw : wrap64 ((i : Int) + 1) = ((i + 1 : Nat) : Int) := by unfold wrap64; omega
    obtain ⟨b, hb, hbi⟩ := ih k (i + 1) (by omega) (by omega)
    simp only [downpourref07_Right.l0]
    rw [hw, hb, if_pos (by omega), if_pos (by omega), if_pos (by omega), rd_nat]
    clear hw
    by_cases h0 : i = 0
    · subst h0
      rw [if_pos (show ((0 : Nat) : Int) = 0 from rfl)]
      by_cases hz : l.getD 0 0 = 0
      · rw [if_pos hz]
        refine ⟨false, rfl, ?_⟩
        constructor
        · intro h; cases h
        · intro h; exact absurd hz (h.1 rfl (by omega))
      · rw [if_neg hz, if_neg (by omega)]
        refine ⟨b, rfl, hbi.trans ?_⟩
        constructor
        · intro h; exact ⟨fun _ _ => hz, fun j _ h2 => h.2.1 j (by omega) h2, h.2.2⟩
        · intro h; exact ⟨fun h => by omega, fun j _ h2 => h.2.1 j (by omega) h2, h.2.2⟩
    · have hw1 : wrap64 ((i : Int) - 1) = ((i - 1 : Nat) : Int) := by unfold wrap64; omega
      rw [if_neg (by omega), if_pos (by omega), hw1]
      clear hw1
      rw [if_pos (by omega), if_pos (by omega), rd_nat]
      by_cases hz : l.getD (i - 1) 0 ≥ l.getD i 0
      · rw [if_pos hz]
        refine ⟨false, rfl, ?_⟩
        constructor
        · intro h; cases h
        · intro h
          have := h.2.1 (i - 1) (by omega) (by omega)
          rw [show i - 1 + 1 = i by omega] at this
          omega
      · rw [if_neg hz]
        refine ⟨b, rfl, hbi.trans ?_⟩
        constructor
        · intro h
          refine ⟨fun h => by omega, fun j h1 h2 => ?_, h.2.2⟩
          by_cases e : j + 1 = i
          · subst e
            rw [Nat.add_sub_cancel] at hz
            omega
          · exact h.2.1 j (by omega) h2
        · intro h; exact ⟨fun h => by omega, fun j _ h2 => h.2.1 j (by omega) h2, h.2.2⟩
theorem right_f (l : List Int) (hl : l.length ≤ 9223372036854775000) (k : Nat) (hk : l.length < k) : downpourref07_Right.f k l = some (decide (okT l)) := by
  obtain ⟨b, hb, hbi⟩ := right_l0 l hl l.length k 0 (by omega) hk
  unfold downpourref07_Right.f
  rw [show (0 : Int) = ((0 : Nat) : Int) from rfl, hb]
  congr 1
  have : b = true ↔ okT l := hbi.trans ⟨fun h => ⟨h.2.2.1, h.2.2.2, h.1 rfl h.2.2.1, fun j hj => h.2.1 j (by omega) hj⟩, fun h => ⟨fun _ _ => h.2.2.1, fun j _ hj => h.2.2.2 j hj, h.1, h.2.1⟩⟩
  by_cases q : okT l
  · rw [this.mpr q, decide_eq_true q]
  · rw [decide_eq_false q]
    exact Bool.eq_false_iff.mpr (fun z => q (this.mp z))

theorem pick_l0 (l : List Int) (hl : l.length ≤ 9223372036854775000) (n : Int) (b : Nat) (hb : b < l.length) (h1 : ∀ x, x < b → l.getD x 0 ≤ n) (h2 : n < l.getD b 0) (d : Nat) : ∀ (k i : Nat), i + d = b → d < k →
    downpourref07_Pick.l0 k n l (l.length : Int) i = some ((b : Int) + 1) := by
  induction d with
  | zero =>
    intro k i hi hk
    obtain ⟨k, rfl⟩ : ∃ m, k = m + 1 := ⟨k - 1, by omega⟩
    obtain rfl : i = b := by omega
    have hw : wrap64 ((i : Int) + 1) = (i : Int) + 1 := by unfold wrap64; omega
    simp only [downpourref07_Pick.l0]
    rw [hw, if_pos (by omega), if_pos (by omega), if_pos (by omega), rd_nat, if_pos h2]
  | succ d ih =>
    intro k i hi hk
    obtain ⟨k, rfl⟩ : ∃ m, k = m + 1 := ⟨k - 1, by omega⟩
    have hw : wrap64 ((i : Int) + 1) = ((i + 1 : Nat) : Int) := by unfold wrap64; omega
    have h3 := ih k (i + 1) (by omega) (by omega)
    have h4 := h1 i (by omega)
    simp only [downpourref07_Pick.l0]
    rw [hw, h3, if_pos (by omega), if_pos (by omega), if_pos (by omega), rd_nat, if_neg (by omega)]
/-- What is behind the front. -/
theorem below_spec (n : Int) (l : List Int) (hr : rises l) : below n l ≤ l.length ∧ (∀ x, x < below n l → l.getD x 0 ≤ n) ∧ (∀ x, below n l ≤ x → x < l.length → n < l.getD x 0) := by
  have h : ∀ (l : List Int) (a : Nat), a ≤ l.length → (a < l.length → n < l.getD a 0) → (∀ x, x < a → l.getD x 0 ≤ n) → rises l → (∀ x, a ≤ x → x < l.length → n < l.getD x 0) := by
    intro l a ha h1 _ hr x hx hxl
    have := rises_mono hr a x hx hxl
    have := h1 (by omega)
    omega
  have key : below n l ≤ l.length ∧ (∀ x, x < below n l → l.getD x 0 ≤ n) ∧ (below n l < l.length → n < l.getD (below n l) 0) := by
    clear h hr
    unfold below
    induction l with
    | nil => simp
    | cons y l ih =>
      rw [List.takeWhile_cons]
      by_cases hy : y ≤ n
      · rw [if_pos (by simpa using hy)]
        refine ⟨by simpa using ih.1, fun x hx => ?_, fun hlt => ?_⟩
        · cases x with
          | zero => simpa using hy
          | succ x => simpa using ih.2.1 x (by simpa using hx)
        · simpa using ih.2.2 (by simpa using hlt)
      · rw [if_neg (by simpa using hy)]
        exact ⟨by simp, fun x hx => by simp at hx, fun _ => by simpa using hy⟩
  exact ⟨key.1, key.2.1, h l _ key.1 key.2.2 key.2.1 hr⟩
theorem last_pos (l : List Int) (h : ∀ x ∈ l, 0 ≤ x) (ok : okT l) : 0 < l.getD (l.length - 1) 0 := by
  have h1 := rises_mono ok.2.2.2 0 (l.length - 1) (by omega) (by have := ok.1; omega)
  have h2 := getD_nonneg h 0
  have h3 := ok.2.2.1
  omega
theorem below_lt (n : Int) (l : List Int) (h : ∀ x ∈ l, 0 ≤ x) (ok : okT l) : below (n % l.getD (l.length - 1) 0) l < l.length := by
  have hp := last_pos l h ok
  have hlt := Int.emod_lt_of_pos n hp
  obtain ⟨h1, h2, _⟩ := below_spec (n % l.getD (l.length - 1) 0) l ok.2.2.2
  rcases Nat.lt_or_ge (below (n % l.getD (l.length - 1) 0) l) l.length with z | z
  · exact z
  · have := h2 (l.length - 1) (by have := ok.1; omega)
    omega
theorem refPick_f (l : List Int) (h : ∀ x ∈ l, 0 ≤ x) (n : Int) (hn : 0 ≤ n) (ok : okT l) (k : Nat) (hk : l.length < k) :
    downpourref07_Pick.f k l n = some (((below (n % l.getD (l.length - 1) 0) l : Nat) : Int) + 1) := by
  have hp := last_pos l h ok
  have h64 := ok.2.1
  have h0 := ok.1
  have hw : wrap64 ((l.length : Int) - 1) = ((l.length - 1 : Nat) : Int) := by unfold wrap64; omega
  unfold downpourref07_Pick.f
  rw [hw]; clear hw
  obtain ⟨_, h2, h3⟩ := below_spec (n % l.getD (l.length - 1) 0) l ok.2.2.2
  have hlt := below_lt n l h ok
  rw [if_pos (by omega), if_pos (by omega), rd_nat, if_neg (by omega), Int.tmod_eq_emod_of_nonneg hn]
  exact pick_l0 l (by omega) _ _ hlt h2 (h3 _ (Nat.le_refl _) hlt) (below (n % l.getD (l.length - 1) 0) l) k 0 (by omega) (by omega)

theorem u64_bd {n : Int} (h : (Lit.int .u64 n).wf = true) : 0 ≤ n ∧ n ≤ 18446744073709551615 := bounds_u64 h

theorem DegreePicks : downpourlaw07_DegreePicks.Pure := by
  intro l0 a1 _ h1 h2 h3
  refine ⟨100, ?_⟩
  unfold downpourlaw07_DegreePicks.f
  have hm : 0 ≤ mn (l0.length : Int) 66 ∧ mn (l0.length : Int) 66 ≤ l0.length ∧ mn (l0.length : Int) 66 ≤ 66 := by unfold mn; split <;> omega
  rw [if_pos hm.1, if_pos hm.2.1]
  have hl : (l0.take (mn (l0.length : Int) 66).toNat).length ≤ 66 := by rw [List.length_take]; omega
  have hp : ∀ x ∈ l0.take (mn (l0.length : Int) 66).toNat, 0 ≤ x := fun x hx => (u64_bd (h2 x (List.mem_of_mem_take hx))).1
  generalize l0.take (mn (l0.length : Int) 66).toNat = l at hl hp ⊢
  have hn := (u64_bd h3).1
  rw [Pick_f l a1 hp hn (by omega), Option.bind_some, right_f l (by omega) 100 (by omega), Option.bind_some]
  by_cases ok : okT l
  · rw [if_pos ok, if_pos (decide_eq_true ok), alive07, Option.bind_some, if_pos rfl, if_pos rfl, refPick_f l hp a1 hn ok 100 (by omega), Option.bind_some]
    simp [Int.add_comm]
  · rw [if_neg ok, if_neg (by simpa using ok), alive07, Option.bind_some, if_pos rfl, if_pos rfl]
    rfl

end Go.Proofs.Ytjgcfdiicjbdoaa.Pure

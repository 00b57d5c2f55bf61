/-
  DegreeRoots, the pure law: a number's root is not more than the next one's, and that is the same, or 1 more; a square's root is what was squared. For every input.
-/
import Derived.Test.YtjgcfdiicjbdoaaPureDegreePicks
import Derived.Test.YtjgcfdiicjbdoaaPx3
namespace Go.Proofs.Ytjgcfdiicjbdoaa.Pure
open Go.RowKit Go.Proofs.Ytjgcfdiicjbdoaa.Own Go.Proofs.Ytjgcfdiicjbdoaa.P Go.Proofs.YtjgcfdiicjbdoaaW.PrintWords Go.Proofs.YtjgcfdiicjbdoaaW.PrintLast

theorem sq_le {a b : Int} (ha : 0 ≤ a) (h : a ≤ b) : a * a ≤ b * b := Int.mul_le_mul h h ha (by omega)
theorem lt_of_sq {a b : Int} (hb : 0 ≤ b) (h : a * a < b * b) : a < b := by
  rcases Int.lt_or_le a b with h1 | h1
  · exact h1
  · have := sq_le hb h1; omega
/-- A number's root. -/
def IsRoot (k r : Int) : Prop := 0 ≤ r ∧ r * r ≤ k ∧ k < (r + 1) * (r + 1)
theorem root_one {k r s : Int} (h1 : IsRoot k r) (h2 : IsRoot k s) : r = s := by
  have a : r < s + 1 := lt_of_sq (by have := h2.1; omega) (by have := h1.2.1; have := h2.2.2; omega)
  have b : s < r + 1 := lt_of_sq (by have := h1.1; omega) (by have := h2.2.1; have := h1.2.2; omega)
  omega
theorem two_pow_le (d : Nat) (h : d ≤ 16) : (2 : Int) ^ d ≤ 65536 := by
  have : 2 ^ d ≤ 2 ^ 16 := Nat.pow_le_pow_right (by decide) h
  have h2 : ((2 ^ d : Nat) : Int) ≤ ((2 ^ 16 : Nat) : Int) := by exact_mod_cast this
  simpa using h2
theorem root_l0 (x0 : Int) (d : Nat) : ∀ (k : Nat) (out : Int), d ≤ 16 → d < k → 0 ≤ out → out + 2 ^ d ≤ 65536 → out * out ≤ x0 → x0 < (out + 2 ^ d) * (out + 2 ^ d) →
    ∃ r, degree_root.l0 k x0 out (2 ^ d / 2) = some r ∧ IsRoot x0 r := by
  induction d with
  | zero =>
    intro k out _ hk h0 _ h2 h3
    obtain ⟨k, rfl⟩ : ∃ m, k = m + 1 := ⟨k - 1, by omega⟩
    refine ⟨out, ?_, h0, h2, by simpa using h3⟩
    simp only [degree_root.l0]
    rw [if_neg (by simp)]
  | succ d ih =>
    intro k out hd hk h0 h1 h2 h3
    obtain ⟨k, rfl⟩ : ∃ m, k = m + 1 := ⟨k - 1, by omega⟩
    have e : (2 : Int) ^ (d + 1) / 2 = 2 ^ d := by rw [Int.pow_succ]; omega
    have hp : 0 < (2 : Int) ^ d := Int.pow_pos (by decide)
    have h65 := two_pow_le d (by omega)
    rw [Int.pow_succ] at h1 h3
    simp only [degree_root.l0]
    rw [e]
    clear e
    generalize hq : (2 : Int) ^ d = q at hp h65 h1 h3 ih ⊢
    have e2 : wrap64 (out + q) = out + q := by unfold wrap64; omega
    rw [e2]; clear e2
    have hsq := sq_le (a := out + q) (b := 65536) (by omega) (by omega)
    have hsq0 := sq_le (a := 0) (b := out + q) (by omega) (by omega)
    have e3 : wrap64 ((out + q) * (out + q)) = (out + q) * (out + q) := by
      generalize (out + q) * (out + q) = z at hsq hsq0 ⊢
      unfold wrap64; omega
    rw [e3, if_pos hp]; clear e3
    by_cases hc : (out + q) * (out + q) ≤ x0
    · rw [if_pos hc]
      exact ih k (out + q) (by omega) (by omega) (by omega) (by omega) hc (by
        rw [show out + q + q = out + q * 2 by omega]; exact h3)
    · rw [if_neg hc]
      exact ih k out (by omega) (by omega) h0 (by omega) h2 (by omega)
theorem root_f (x : Int) (h0 : 0 ≤ x) (h1 : x ≤ 2147483647) (k : Nat) (hk : 16 < k) : ∃ r, degree_root.f k x = some r ∧ IsRoot x r := by
  unfold degree_root.f
  have := root_l0 x 16 k 0 (by decide) hk (by decide) (by decide) (by omega) (by
    have : (0 + 2 ^ 16 : Int) * (0 + 2 ^ 16) = 4294967296 := by decide
    omega)
  exact this
theorem Root_f (x : Int) (h0 : 0 ≤ x) (h1 : x ≤ 2147483647) (k : Nat) (hk : 16 < k) : ∃ r, degree_Root.f k x = some (r, 0) ∧ IsRoot x r := by
  obtain ⟨r, hr, h⟩ := root_f x h0 h1 k hk
  refine ⟨r, ?_, h⟩
  unfold degree_Root.f
  rw [if_neg (by omega), if_neg (by omega), hr, Option.bind_some]

theorem tmod_bd (a n : Int) (h : 0 < n) : -n < Int.tmod a n ∧ Int.tmod a n < n := by
  refine ⟨?_, Int.tmod_lt_of_pos a h⟩
  have := Int.tmod_lt_of_pos (-a) h
  rw [Int.neg_tmod] at this
  omega
theorem tmod_pos (a n : Int) (ha : 0 ≤ a) (h : 0 < n) : 0 ≤ Int.tmod a n ∧ Int.tmod a n < n := ⟨Int.tmod_nonneg n ha, Int.tmod_lt_of_pos a h⟩

theorem DegreeRoots : downpourlaw07_DegreeRoots.Pure := by
  intro a0 _
  refine ⟨17, ?_⟩
  unfold downpourlaw07_DegreeRoots.f
  have b1 := tmod_bd a0 46340 (by decide)
  generalize Int.tmod a0 46340 = u at b1 ⊢
  have e1 : wrap64 (u + 46340) = u + 46340 := by unfold wrap64; omega
  rw [e1]; clear e1
  have b2 := tmod_pos (u + 46340) 46340 (by omega) (by decide)
  generalize Int.tmod (u + 46340) 46340 = n at b2 ⊢
  have hnn := sq_le (a := n) (b := 46339) (by omega) (by omega)
  have hn0 := sq_le (a := 0) (b := n) (by omega) (by omega)
  obtain ⟨s, hs⟩ : ∃ s, n * n = s := ⟨_, rfl⟩
  rw [hs] at hnn hn0
  have e2 : wrap64 (n + 1) = n + 1 := by unfold wrap64; omega
  have e3 : wrap64 (n * n) = s := by rw [hs]; unfold wrap64; omega
  have e4 : wrap64 (s + wrap64 (2 * n)) = s + 2 * n := by unfold wrap64; omega
  rw [e2, e3, e4]; clear e2 e3 e4
  obtain ⟨a, ha, ia⟩ := Root_f n (by omega) (by omega) 17 (by decide)
  obtain ⟨b, hb, ib⟩ := Root_f (n + 1) (by omega) (by omega) 17 (by decide)
  obtain ⟨c, hc, ic⟩ := Root_f s (by omega) (by omega) 17 (by decide)
  obtain ⟨d, hd, id⟩ := Root_f (s + 2 * n) (by omega) (by omega) 17 (by decide)
  have hc' : c = n := root_one ic ⟨b2.1, by omega, by
    have : (n + 1) * (n + 1) = n * n + 2 * n + 1 := by rw [Int.add_mul, Int.mul_add]; omega
    omega⟩
  have hd' : d = n := root_one id ⟨b2.1, by omega, by
    have : (n + 1) * (n + 1) = n * n + 2 * n + 1 := by rw [Int.add_mul, Int.mul_add]; omega
    omega⟩
  have h1 : a < b + 1 := lt_of_sq (by have := ib.1; omega) (by have := ia.2.1; have := ib.2.2; omega)
  have h2 : b < a + 1 + 1 := by
    refine lt_of_sq (by have := ia.1; omega) ?_
    have h3 := ib.2.1
    have h4 := ia.2.2
    have h5 : (a + 1 + 1) * (a + 1 + 1) = (a + 1) * (a + 1) + 2 * (a + 1) + 1 := by rw [Int.add_mul, Int.mul_add]; omega
    have := ia.1
    omega
  rw [ha, Option.bind_some, hb, Option.bind_some, hc, Option.bind_some, hd, Option.bind_some, alive07, Option.bind_some, if_pos rfl, if_pos rfl, if_pos rfl, if_pos rfl, if_pos rfl, hc', hd']
  have ha1 : a < 46341 := lt_of_sq (by decide) (by have := ia.2.1; omega)
  have := ia.1
  have e5 : wrap64 (a + 1) = a + 1 := by unfold wrap64; omega
  by_cases q : b = a
  · rw [if_pos q, if_pos rfl]
    simp
  · rw [if_neg q, e5, if_pos (by omega), if_pos rfl]
    simp

end Go.Proofs.Ytjgcfdiicjbdoaa.Pure

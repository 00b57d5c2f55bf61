/-
  DegreeSums, the pure law: each degree has a weight, and sums rise by it; a sum less 1 picks its own degree, and a sum, but the last one, the next one; what is picked is 1 to k. For every input.
-/
import Derived.Test.YtjgcfdiicjbdoaaNums
import Derived.Test.YtjgcfdiicjbdoaaQx3
namespace Go.Proofs.Ytjgcfdiicjbdoaa.Pure
open Go.RowKit Go.Proofs.Ytjgcfdiicjbdoaa.Own Go.Proofs.Ytjgcfdiicjbdoaa.P Go.Proofs.Ytjgcfdiicjbdoaa.Q Go.Proofs.YtjgcfdiicjbdoaaW.PrintWords Go.Proofs.YtjgcfdiicjbdoaaW.PrintLast

/-- The sum ahead of a place. -/
def prev (l : List Int) (i : Nat) : Int := if i = 0 then 0 else l.getD (i - 1) 0
theorem getD_left (a b : List Int) (i : Nat) (h : i < a.length) : (a ++ b).getD i 0 = a.getD i 0 := by
  rw [List.getD_eq_getElem?_getD, List.getD_eq_getElem?_getD, List.getElem?_append_left h]
theorem getD_right (a b : List Int) (i : Nat) (h : a.length ≤ i) : (a ++ b).getD i 0 = b.getD (i - a.length) 0 := by
  rw [List.getD_eq_getElem?_getD, List.getD_eq_getElem?_getD, List.getElem?_append_right h]
theorem nil_or_snoc (l : List Int) : l = [] ∨ ∃ pre x, l = pre ++ [x] := by
  rcases List.eq_nil_or_concat l with h | ⟨pre, x, h⟩
  · exact .inl h
  · exact .inr ⟨pre, x, by rw [h, List.concat_eq_append]⟩
theorem prev_left (a b : List Int) (i : Nat) (h : i ≤ a.length) : prev (a ++ b) i = prev a i := by
  unfold prev
  split
  · rfl
  · rw [getD_left _ _ _ (by omega)]
theorem rs_prev (l : List Int) : (rs l).2 = prev (rs l).1 l.length := by
  rcases nil_or_snoc l with rfl | ⟨pre, x, rfl⟩
  · rfl
  · rw [rs_snoc]
    have := rs_len pre
    unfold prev
    rw [if_neg (by simp), getD_right _ _ _ (by simp; omega)]
    simp [this]
theorem rs_at (l : List Int) : ∀ n, l.length = n → ∀ i, i < l.length → (rs l).1.getD i 0 = IntKind.u64.wrap (prev (rs l).1 i + l.getD i 0) := by
  intro n
  induction n generalizing l with
  | zero => intro h i hi; omega
  | succ n ih =>
    intro h i hi
    rcases nil_or_snoc l with rfl | ⟨pre, x, rfl⟩
    · simp at h
    · have hp : pre.length = n := by simpa using h
      have hl := rs_len pre
      rw [rs_snoc, prev_left _ _ _ (by simp at hi; omega)]
      by_cases e : i = pre.length
      · subst e
        rw [getD_right _ _ _ (by omega), getD_right _ _ _ (by omega), rs_prev]
        simp [hl]
      · have hi2 : i < pre.length := by simp at hi; omega
        rw [getD_left _ _ _ (by omega), getD_left _ _ _ hi2]
        exact ih pre hp i hi2

theorem getD_mem {l : List Int} {i : Nat} (h : i < l.length) : l.getD i 0 ∈ l := by
  rw [List.getD_eq_getElem?_getD, List.getElem?_eq_getElem h]; exact List.getElem_mem h

section
variable {n : Nat} {t : Int}
theorem okT_of (h1 : 1 ≤ n) (h2 : n ≤ 64) (ft : Facts n t) : okT (rs (wl n t.toNat)).1 := by
  have hl : (rs (wl n t.toNat)).1.length = n := by rw [rs_len, wl_length]
  refine ⟨by omega, by omega, ?_, ft.rises⟩
  have := ft.sums _ (getD_mem (i := 0) (by omega))
  omega
theorem rises_lt {l : List Int} (h : rises l) (x y : Nat) (hxy : x < y) (hy : y < l.length) : l.getD x 0 < l.getD y 0 := by
  have := h x (by omega)
  have := rises_mono h (x + 1) y hxy hy
  omega
theorem pick_own (l : List Int) (ok : okT l) (hp : ∀ x ∈ l, 0 < x) (i : Nat) (hi : i < l.length) : degree_Pick.f l (l.getD i 0 - 1) = some ((i : Int) + 1, 0) := by
  have h0 := hp _ (getD_mem hi)
  have hm := rises_mono ok.2.2.2 i (l.length - 1) (by omega) (by omega)
  have h64 := ok.2.1
  rw [Pick_f l _ (fun x hx => Int.le_of_lt (hp x hx)) (by omega) (by omega), if_pos ok, Int.emod_eq_of_lt (by omega) (by omega)]
  rw [below_is _ l i (by omega) (fun x hx => by have := rises_lt ok.2.2.2 x i hx hi; omega) (fun x hx hxl => by have := rises_mono ok.2.2.2 i x hx hxl; omega)]
  rw [Int.add_comm]
theorem pick_next (l : List Int) (ok : okT l) (hp : ∀ x ∈ l, 0 < x) (i : Nat) (hi : i + 1 < l.length) : degree_Pick.f l (l.getD i 0) = some ((i : Int) + 2, 0) := by
  have h0 := hp _ (getD_mem (i := i) (by omega))
  have hm := rises_lt ok.2.2.2 i (l.length - 1) (by omega) (by omega)
  have h64 := ok.2.1
  rw [Pick_f l _ (fun x hx => Int.le_of_lt (hp x hx)) (by omega) (by omega), if_pos ok, Int.emod_eq_of_lt (by omega) (by omega)]
  rw [below_is _ l (i + 1) (by omega) (fun x hx => rises_mono ok.2.2.2 x i (by omega) (by omega)) (fun x hx hxl => rises_lt ok.2.2.2 i x (by omega) hxl)]
  congr 2
  omega
theorem pick_last (l : List Int) (ok : okT l) (hp : ∀ x ∈ l, 0 < x) (i : Nat) (hi : i + 1 = l.length) : degree_Pick.f l (l.getD i 0) = some (1, 0) := by
  have h0 := hp _ (getD_mem (i := i) (by omega))
  have h64 := ok.2.1
  rw [Pick_f l _ (fun x hx => Int.le_of_lt (hp x hx)) (by omega) (by omega), if_pos ok, show l.length - 1 = i by omega, Int.emod_self]
  rw [below_is _ l 0 (by omega) (fun x hx => by omega) (fun x hx hxl => hp _ (getD_mem hxl))]
  rfl

theorem u64_less (z : Int) (h0 : 0 < z) (h1 : z ≤ 18446744073709551615) : IntKind.u64.wrap (z - 1) = z - 1 := by
  have : IntKind.u64.wrap (z - 1) = (z - 1) % 18446744073709551616 := rfl
  rw [this]; exact Int.emod_eq_of_lt (by omega) (by omega)
theorem wrap_1 (i n : Nat) (h : i + 1 ≤ n) (hn : n ≤ 64) : wrap64 ((i : Int) + 1) = ((i + 1 : Nat) : Int) := by unfold wrap64; omega
theorem wrap_2 (i n : Nat) (h : i + 1 ≤ n) (hn : n ≤ 64) : wrap64 ((i : Int) + 2) = (i : Int) + 2 := by unfold wrap64; omega
theorem wrap_m (n : Nat) (h : 1 ≤ n) (hn : n ≤ 64) : wrap64 ((n : Int) - 1) = (n : Int) - 1 := by unfold wrap64; omega
theorem lt_cast (i n : Nat) (h : i + 1 ≤ n) : (i : Int) < (n : Int) := by omega
theorem last_cast (i n : Nat) (h : i + 1 = n) : (i : Int) = (n : Int) - 1 := by omega
theorem last_cast_ne (i n : Nat) (h : ¬ i + 1 = n) : ¬ (i : Int) = (n : Int) - 1 := by omega
set_option maxRecDepth 10000 in
theorem sums_l0 (h1 : 1 ≤ n) (h2 : n ≤ 64) (ft : Facts n t) (d : Nat) : ∀ (k i : Nat), i + d = n → d + 17 < k →
    downpourlaw07_DegreeSums.l0 k n (rs (wl n t.toNat)).1 (prev (rs (wl n t.toNat)).1 i) (wl n t.toNat) ((wl n t.toNat).length : Int) i = some true := by
  have ok := okT_of h1 h2 ft
  have hw : (wl n t.toNat).length = n := wl_length _ _
  have hl : (rs (wl n t.toNat)).1.length = n := by rw [rs_len, hw]
  have hat := rs_at (wl n t.toNat) n hw
  have hsum := ft.sums
  have hlow := ft.low
  have hpos := ft.pos
  rw [hw]
  generalize (rs (wl n t.toNat)).1 = T at ok hl hat hsum hlow ⊢
  generalize wl n t.toNat = W at hw hat hpos ⊢
  induction d with
  | zero =>
    intro k i hi hk
    obtain ⟨k, rfl⟩ : ∃ m, k = m + 1 := ⟨k - 1, by omega⟩
    obtain ⟨r, hr, ir⟩ := Root_f (n : Int) (by omega) (by omega) k (by omega)
    have hr9 : r < 9 := lt_of_sq (by decide) (by have := ir.2.1; omega)
    have hr0 := ir.1
    have hsq := sq_le (a := r) (b := 8) hr0 (by omega)
    have hsq0 := sq_le (a := 0) (b := r) (by decide) hr0
    have hsq1 := sq_le (a := r + 1) (b := 9) (by omega) (by omega)
    have hsq10 := sq_le (a := 0) (b := r + 1) (by decide) (by omega)
    have e0 : wrap64 (r + 1) = r + 1 := by unfold wrap64; omega
    have e1 : wrap64 (r * r) = r * r := by
      generalize r * r = z at hsq hsq0 ⊢
      unfold wrap64; omega
    have e2 : wrap64 ((r + 1) * (r + 1)) = (r + 1) * (r + 1) := by
      generalize (r + 1) * (r + 1) = z at hsq1 hsq10 ⊢
      unfold wrap64; omega
    simp only [downpourlaw07_DegreeSums.l0]
    rw [if_neg (by omega), hr, Option.bind_some, if_pos rfl, e0, e1, e2]
    clear e0 e1 e2
    rw [if_pos ir.2.1, decide_eq_true (show (r + 1) * (r + 1) > (n : Int) from ir.2.2)]
  | succ d ih =>
    intro k i hi hk
    obtain ⟨k, rfl⟩ : ∃ m, k = m + 1 := ⟨k - 1, by omega⟩
    have hT0 := hsum _ (getD_mem (l := T) (i := i) (by omega))
    have hT1 := hlow _ (getD_mem (l := T) (i := i) (by omega))
    have hW0 := hpos _ (getD_mem (l := W) (i := i) (by omega))
    have hiW : i < W.length := by omega
    have hnn : i + 1 ≤ n := by omega
    have hnext := ih k (i + 1) (by omega) (by omega)
    have hpv : prev T (i + 1) = T.getD i 0 := by unfold prev; rw [if_neg (by omega), Nat.add_sub_cancel]
    rw [hpv] at hnext
    have p1 := pick_own T ok hsum i (by omega)
    have e3 := u64_less _ hT0 hT1
    simp only [downpourlaw07_DegreeSums.l0]
    rw [rd_nat, rd_nat, e3, p1, Option.bind_some, ← hat i hiW, wrap_1 i n hnn h2, wrap_2 i n hnn h2, wrap_m n h1 h2]
    clear e3 p1 hat hT1 hlow
    rw [if_pos (lt_cast i n hnn), if_pos (Int.natCast_nonneg i), if_pos (by rw [hw]; exact lt_cast i n hnn), if_pos (by rw [hl]; exact lt_cast i n hnn)]
    by_cases hlast : i + 1 = n
    · rw [pick_last T ok hsum i (hlast.trans hl.symm), Option.bind_some, if_pos (last_cast i n hlast), if_neg (Int.ne_of_gt hW0), if_pos rfl, if_pos rfl, if_pos rfl, if_pos (by simp), if_pos rfl]
      exact hnext
    · rw [pick_next T ok hsum i (by rw [hl]; omega), Option.bind_some, if_neg (last_cast_ne i n hlast), if_neg (Int.ne_of_gt hW0), if_pos rfl, if_pos rfl, if_pos rfl, if_pos (by simp), if_pos rfl]
      exact hnext
end

theorem DegreeSums : downpourlaw07_DegreeSums.Pure := by
  intro a0 a1 _ hw1
  refine ⟨100, ?_⟩
  unfold downpourlaw07_DegreeSums.f
  have hn := (u64_bd hw1).1
  have b1 := tmod_bd a0 64 (by decide)
  generalize Int.tmod a0 64 = u at b1 ⊢
  have e1 : wrap64 (u + 64) = u + 64 := by unfold wrap64; omega
  rw [e1]; clear e1
  have b2 := tmod_pos (u + 64) 64 (by omega) (by decide)
  generalize Int.tmod (u + 64) 64 = v at b2 ⊢
  have e2 : wrap64 (v + 1) = v + 1 := by unfold wrap64; omega
  rw [e2]; clear e2
  obtain ⟨n, hn2⟩ := Int.eq_ofNat_of_zero_le (show 0 ≤ v + 1 by omega)
  rw [hn2]
  obtain ⟨t, ft⟩ := facts n (by omega) (by omega)
  have hr := ft.root
  have ok := okT_of (by omega) (by omega) ft
  have hw : (wl n t.toNat).length = n := wl_length _ _
  have hl : (rs (wl n t.toNat)).1.length = n := by rw [rs_len, hw]
  have hsn : ∀ x ∈ (rs (wl n t.toNat)).1, 0 ≤ x := fun x hx => Int.le_of_lt (ft.sums x hx)
  have hlt := below_lt a1 _ hsn ok
  have hs : 1 ≤ (n : Int) ∧ (n : Int) ≤ 64 := by omega
  have f1 : degree_Weights.f (n : Int) = some (wl n t.toNat, 0) := by
    unfold degree_Weights.f; rw [if_pos hs, hr, Option.bind_some]; rfl
  have f2 : degree_Table.f (n : Int) = some ((rs (wl n t.toNat)).1, 0) := by
    unfold degree_Table.f; rw [if_pos hs, hr, Option.bind_some]; rfl
  rw [f1, Option.bind_some, f2, Option.bind_some, Pick_f _ a1 hsn hn (by omega), if_pos ok, Option.bind_some, if_pos rfl, if_pos rfl, if_pos rfl]
  rw [if_pos (show ((wl n t.toNat).length : Int) = n by omega), if_pos (show ((rs (wl n t.toNat)).1.length : Int) = n by omega), if_neg (by omega), if_neg (by omega), alive07, Option.bind_some]
  simp only [downpourlaw07_DegreeSums.j0]
  rw [if_neg (by decide)]
  exact sums_l0 (by omega) (by omega) ft n 99 0 (by omega) (by omega)

end Go.Proofs.Ytjgcfdiicjbdoaa.Pure

/-
  Plain law, no program in sight: binary heaps on lists, insertion into an ordered list, and what a queue of drops answers.
-/
namespace Go.Proofs.Ytdkmmfhieapbaaa.Plain
set_option linter.unusedVariables false
variable {α : Type}

/-- A strict total order, as a test. -/
structure LO (lt : α → α → Bool) : Prop where
  irr : ∀ a, lt a a = false
  tr : ∀ a b c, lt a b = true → lt b c = true → lt a c = true
  tot : ∀ a b, lt a b = false → lt b a = false → a = b
variable {lt : α → α → Bool}
theorem LO.asym (h : LO lt) {a b : α} (hab : lt a b = true) : lt b a = false := by
  cases e : lt b a with
  | false => rfl
  | true => have := h.tr a b a hab e; rw [h.irr] at this; cases this
/-- 'not behind' goes on. -/
theorem LO.le_tr (h : LO lt) {a b c : α} (h1 : lt b a = false) (h2 : lt c b = false) : lt c a = false := by
  cases e : lt c a with
  | false => rfl
  | true =>
    cases e1 : lt a b with
    | true => have := h.tr c a b e e1; rw [h2] at this; cases this
    | false => obtain rfl := h.tot a b e1 h1; rw [h2] at e; cases e

/-- Into an ordered list. -/
def ins (lt : α → α → Bool) (d : α) : List α → List α
  | [] => [d]
  | x :: l => if lt d x then d :: x :: l else x :: ins lt d l
def srt (lt : α → α → Bool) (l : List α) : List α := l.foldl (fun acc d => ins lt d acc) []
/-- In order. -/
def Ord (lt : α → α → Bool) (l : List α) : Prop := l.Pairwise (fun a b => lt b a = false)

theorem ins_perm (d : α) (l : List α) : (ins lt d l).Perm (d :: l) := by
  induction l with
  | nil => exact .refl _
  | cons x l ih =>
    unfold ins
    split
    · exact .refl _
    · exact (ih.cons x).trans (.swap d x l)
theorem ins_length (d : α) (l : List α) : (ins lt d l).length = l.length + 1 := (ins_perm d l).length_eq
theorem ins_mem {d x : α} {l : List α} (h : x ∈ ins lt d l) : x = d ∨ x ∈ l := by simpa using (ins_perm d l).mem_iff.1 h
theorem ins_ord (h : LO lt) (d : α) {l : List α} (hl : Ord lt l) : Ord lt (ins lt d l) := by
  induction l with
  | nil => exact List.pairwise_singleton _ _
  | cons x l ih =>
    unfold Ord at hl ⊢
    rw [List.pairwise_cons] at hl
    unfold ins
    split
    · next e =>
      rw [List.pairwise_cons, List.pairwise_cons]
      refine ⟨fun y hy => ?_, hl⟩
      rcases List.mem_cons.1 hy with rfl | hy
      · exact h.asym e
      · exact h.le_tr (h.asym e) (hl.1 y hy)
    · next e =>
      rw [List.pairwise_cons]
      refine ⟨fun y hy => ?_, ih hl.2⟩
      rcases ins_mem hy with rfl | hy
      · simpa using e
      · exact hl.1 y hy
theorem foldl_ins_perm (l acc : List α) : (l.foldl (fun acc d => ins lt d acc) acc).Perm (l ++ acc) := by
  induction l generalizing acc with
  | nil => exact .refl _
  | cons d l ih => exact (ih _).trans (((ins_perm d acc).append_left l).trans List.perm_middle)
theorem foldl_ins_ord (h : LO lt) (l : List α) {acc : List α} (ha : Ord lt acc) : Ord lt (l.foldl (fun acc d => ins lt d acc) acc) := by
  induction l generalizing acc with
  | nil => exact ha
  | cons d l ih => exact ih (ins_ord h d ha)
theorem srt_perm (l : List α) : (srt lt l).Perm l := by simpa [srt] using foldl_ins_perm (lt := lt) l []
theorem srt_ord (h : LO lt) (l : List α) : Ord lt (srt lt l) := foldl_ins_ord h l List.Pairwise.nil
theorem srt_length (l : List α) : (srt lt l).length = l.length := (srt_perm l).length_eq
theorem srt_snoc (l : List α) (d : α) : srt lt (l ++ [d]) = ins lt d (srt lt l) := by simp [srt, List.foldl_append]

/-- Two ordered lists of the same are one. -/
theorem ord_unique (h : LO lt) {l m : List α} (hl : Ord lt l) (hm : Ord lt m) (hp : l.Perm m) : l = m := by
  induction l generalizing m with
  | nil => exact (List.nil_perm.1 hp).symm
  | cons x l ih =>
    cases m with
    | nil => exact absurd hp.length_eq (by simp)
    | cons y m =>
      unfold Ord at hl hm
      rw [List.pairwise_cons] at hl hm
      have hxy : x = y := by
        rcases List.mem_cons.1 (hp.mem_iff.1 List.mem_cons_self) with e | hx
        · exact e
        · rcases List.mem_cons.1 (hp.mem_iff.2 List.mem_cons_self) with e | hy
          · exact e.symm
          · exact h.tot x y (hm.1 x hx) (hl.1 y hy)
      subst hxy
      rw [ih hl.2 hm.2 (List.perm_cons x |>.1 hp)]
theorem srt_congr (h : LO lt) {l m : List α} (hp : l.Perm m) : srt lt l = srt lt m :=
  ord_unique h (srt_ord h l) (srt_ord h m) ((srt_perm l).trans (hp.trans (srt_perm m).symm))
theorem srt_of_ord (h : LO lt) {l : List α} (hl : Ord lt l) : srt lt l = l := ord_unique h (srt_ord h l) hl (srt_perm l)
/-- The least one ahead. -/
theorem srt_min (h : LO lt) {l m : List α} {d : α} (hp : l.Perm (d :: m)) (hmin : ∀ x, x ∈ m → lt x d = false) : srt lt l = d :: srt lt m := by
  refine ord_unique h (srt_ord h l) ?_ ((srt_perm l).trans (hp.trans ((srt_perm m).symm.cons d)))
  unfold Ord
  rw [List.pairwise_cons]
  exact ⟨fun x hx => hmin x ((srt_perm m).mem_iff.1 hx), srt_ord h m⟩

/-! ### heaps -/
/-- c is a child of p. -/
def ch (p c : Nat) : Prop := c = 2 * p + 1 ∨ c = 2 * p + 2
/-- No child of p, from s on, below n, comes ahead of it. -/
def Heap (lt : α → α → Bool) (xs : List α) (n s : Nat) : Prop := ∀ p c x y, s ≤ p → c < n → ch p c → xs[p]? = some x → xs[c]? = some y → lt y x = false
/-- A heap but at i, on the way down. -/
def Down (lt : α → α → Bool) (xs : List α) (n s i : Nat) : Prop :=
  (∀ p c x y, s ≤ p → c < n → ch p c → p ≠ i → xs[p]? = some x → xs[c]? = some y → lt y x = false) ∧
  ∀ p c x y, s ≤ p → c < n → ch p i → ch i c → xs[p]? = some x → xs[c]? = some y → lt y x = false
/-- A heap but at j, on the way up. -/
def Up (lt : α → α → Bool) (xs : List α) (n j : Nat) : Prop :=
  (∀ p c x y, c < n → ch p c → c ≠ j → xs[p]? = some x → xs[c]? = some y → lt y x = false) ∧
  ∀ p c x y, c < n → ch p j → ch j c → xs[p]? = some x → xs[c]? = some y → lt y x = false
def sw (xs : List α) (i j : Nat) (a b : α) : List α := (xs.set i b).set j a
theorem sw_length (xs : List α) (i j : Nat) (a b : α) : (sw xs i j a b).length = xs.length := by simp [sw]
theorem sw_get {xs : List α} {i j : Nat} {a b : α} (hi : xs[i]? = some a) (hj : xs[j]? = some b) (k : Nat) :
    (sw xs i j a b)[k]? = if k = j then some a else if k = i then some b else xs[k]? := by
  obtain ⟨h1, e1⟩ := List.getElem?_eq_some_iff.1 hi
  obtain ⟨h2, e2⟩ := List.getElem?_eq_some_iff.1 hj
  unfold sw
  rw [List.getElem?_set]
  by_cases e : k = j
  · subst e
    simp [h2]
  · rw [if_neg (Ne.symm e), if_neg e, List.getElem?_set]
    by_cases e2 : k = i
    · subst e2
      simp [h1]
    · rw [if_neg (Ne.symm e2), if_neg e2]
theorem sw_perm {xs : List α} {i j : Nat} {a b : α} (hi : xs[i]? = some a) (hj : xs[j]? = some b) : (sw xs i j a b).Perm xs := by
  obtain ⟨h1, rfl⟩ := List.getElem?_eq_some_iff.1 hi
  obtain ⟨h2, rfl⟩ := List.getElem?_eq_some_iff.1 hj
  exact List.set_set_perm h1 h2
theorem sw_take {xs : List α} {i j n : Nat} {a b : α} (hi : xs[i]? = some a) (hj : xs[j]? = some b) (h1 : i < n) (h2 : j < n) : ((sw xs i j a b).take n).Perm (xs.take n) := by
  have e : (sw xs i j a b).take n = sw (xs.take n) i j a b := by unfold sw; rw [List.take_set, List.take_set]
  rw [e]
  exact sw_perm (by rw [List.getElem?_take, if_pos h1, hi]) (by rw [List.getElem?_take, if_pos h2, hj])
theorem sw_drop {xs : List α} {i j n : Nat} {a b : α} (h1 : i < n) (h2 : j < n) : (sw xs i j a b).drop n = xs.drop n := by
  unfold sw; rw [List.drop_set_of_lt h2, List.drop_set_of_lt h1]

theorem down_start {xs : List α} {n s : Nat} (h : Heap lt xs n (s + 1)) : Down lt xs n s s :=
  ⟨fun p c x y hp hc hch hne hx hy => h p c x y (by omega) hc hch hx hy, fun p c x y hp hc hch _ _ _ => by unfold ch at hch; omega⟩
theorem down_done {xs : List α} {n s i : Nat} (h : Down lt xs n s i) (hi : ∀ c x y, c < n → ch i c → xs[i]? = some x → xs[c]? = some y → lt y x = false) : Heap lt xs n s := by
  intro p c x y hp hc hch hx hy
  by_cases e : p = i
  · subst e; exact hi c x y hc hch hx hy
  · exact h.1 p c x y hp hc hch e hx hy
/-- The lesser child j goes up to i. -/
theorem down_step (hO : LO lt) {xs : List α} {n s i j : Nat} {a b : α} (h : Down lt xs n s i) (hs : s ≤ i) (hj : ch i j) (hjn : j < n) (ha : xs[i]? = some a) (hb : xs[j]? = some b)
    (hlt : lt b a = true) (ho : ∀ c y, ch i c → c < n → xs[c]? = some y → lt y b = false) : Down lt (sw xs i j a b) n s j := by
  have hij : i ≠ j := by unfold ch at hj; omega
  refine ⟨fun p c x y hp hc hch hne hx hy => ?_, fun p c x y hp hc hpj hjc hx hy => ?_⟩
  · rw [sw_get ha hb] at hx hy
    rw [if_neg hne] at hx
    by_cases e1 : p = i
    · subst e1
      rw [if_pos rfl] at hx
      obtain rfl := Option.some.inj hx
      by_cases e2 : c = j
      · subst e2
        rw [if_pos rfl] at hy
        obtain rfl := Option.some.inj hy
        exact hO.asym hlt
      · rw [if_neg e2, if_neg (by unfold ch at hch; omega)] at hy
        exact ho c y hch hc hy
    · rw [if_neg e1] at hx
      by_cases e2 : c = j
      · unfold ch at hch hj; omega
      · rw [if_neg e2] at hy
        by_cases e3 : c = i
        · subst e3
          rw [if_pos rfl] at hy
          obtain rfl := Option.some.inj hy
          exact h.2 p j x b hp hjn hch hj hx hb
        · rw [if_neg e3] at hy
          exact h.1 p c x y hp hc hch e1 hx hy
  · rw [sw_get ha hb] at hx hy
    obtain rfl : p = i := by unfold ch at hpj hj; omega
    rw [if_neg (by unfold ch at hpj; omega), if_pos rfl] at hx
    obtain rfl := Option.some.inj hx
    rw [if_neg (by unfold ch at hjc; omega), if_neg (by unfold ch at hpj hjc; omega)] at hy
    exact h.1 j c b y (by unfold ch at hpj; omega) hc hjc (by omega) hb hy
theorem up_done {xs : List α} {n j : Nat} (h : Up lt xs n j) (hj : ∀ p x y, ch p j → xs[p]? = some x → xs[j]? = some y → lt y x = false) : Heap lt xs n 0 := by
  intro p c x y hp hc hch hx hy
  by_cases e : c = j
  · subst e; exact hj p x y hch hx hy
  · exact h.1 p c x y hc hch e hx hy
theorem up_step (hO : LO lt) {xs : List α} {n i j : Nat} {a b : α} (h : Up lt xs n j) (hj : ch i j) (hjn : j < n) (ha : xs[i]? = some a) (hb : xs[j]? = some b)
    (hlt : lt b a = true) : Up lt (sw xs i j a b) n i := by
  have hij : i ≠ j := by unfold ch at hj; omega
  refine ⟨fun p c x y hc hch hne hx hy => ?_, fun p c x y hc hpi hic hx hy => ?_⟩
  · rw [sw_get ha hb] at hx hy
    rw [if_neg hne] at hy
    by_cases e2 : c = j
    · subst e2
      rw [if_pos rfl] at hy
      obtain rfl := Option.some.inj hy
      obtain rfl : p = i := by unfold ch at hch hj; omega
      rw [if_neg hij, if_pos rfl] at hx
      obtain rfl := Option.some.inj hx
      exact hO.asym hlt
    · rw [if_neg e2] at hy
      by_cases e1 : p = j
      · subst e1
        rw [if_pos rfl] at hx
        obtain rfl := Option.some.inj hx
        exact h.2 i c _ y hc hj hch ha hy
      · rw [if_neg e1] at hx
        by_cases e3 : p = i
        · subst e3
          rw [if_pos rfl] at hx
          obtain rfl := Option.some.inj hx
          exact hO.le_tr (hO.asym hlt) (h.1 p c a y hc hch e2 ha hy)
        · rw [if_neg e3] at hx
          exact h.1 p c x y hc hch e2 hx hy
  · rw [sw_get ha hb] at hx hy
    have hpj : p ≠ j := by unfold ch at hpi hj; omega
    have hpi' : p ≠ i := by unfold ch at hpi; omega
    rw [if_neg hpj, if_neg hpi'] at hx
    have hax : lt a x = false := h.1 p i x a (by unfold ch at hj; omega) hpi hij hx ha
    by_cases e2 : c = j
    · subst e2
      rw [if_pos rfl] at hy
      obtain rfl := Option.some.inj hy
      exact hax
    · rw [if_neg e2, if_neg (by unfold ch at hic; omega)] at hy
      exact hO.le_tr hax (h.1 i c a y hc hic e2 ha hy)
theorem up_start {xs : List α} {d : α} (h : Heap lt xs xs.length 0) : Up lt (xs ++ [d]) (xs.length + 1) xs.length := by
  refine ⟨fun p c x y hc hch hne hx hy => ?_, fun p c x y hc _ hjc _ _ => by unfold ch at hjc; omega⟩
  have hc' : c < xs.length := by omega
  have hp' : p < xs.length := by unfold ch at hch; omega
  rw [List.getElem?_append_left hp'] at hx
  rw [List.getElem?_append_left hc'] at hy
  exact h p c x y (Nat.zero_le _) hc' hch hx hy
/-- None comes ahead of a heap's head. -/
theorem heap_min (hO : LO lt) {xs : List α} {n : Nat} (h : Heap lt xs n 0) (hn : n ≤ xs.length) {a : α} (ha : xs[0]? = some a) : ∀ c y, c < n → xs[c]? = some y → lt y a = false := by
  intro c
  induction c using Nat.strongRecOn with
  | ind c ih =>
    intro y hc hy
    by_cases e : c = 0
    · subst e
      rw [ha] at hy
      obtain rfl := Option.some.inj hy
      exact hO.irr _
    · obtain ⟨x, hx⟩ : ∃ x, xs[(c - 1) / 2]? = some x := ⟨_, List.getElem?_eq_getElem (by omega)⟩
      exact hO.le_tr (ih ((c - 1) / 2) (by omega) x (by omega) hx) (h ((c - 1) / 2) c x y (Nat.zero_le _) hc (by unfold ch; omega) hx hy)
theorem heap_take {xs ys : List α} {n : Nat} (h : Heap lt xs n 0) (hy : ∀ k, k < n → ys[k]? = xs[k]?) : Heap lt ys n 0 := by
  intro p c x y hp hc hch hx hy'
  rw [hy p (by unfold ch at hch; omega)] at hx
  rw [hy c hc] at hy'
  exact h p c x y hp hc hch hx hy'
theorem heap_far (xs : List α) {s : Nat} (hs : xs.length ≤ 2 * s + 1) : Heap lt xs xs.length s := by
  intro p c x y hp hc hch
  unfold ch at hch
  omega

theorem heap_mono {xs : List α} {n m s : Nat} (h : Heap lt xs n s) (hm : m ≤ n) : Heap lt xs m s := fun p c x y hp hc hch hx hy => h p c x y hp (by omega) hch hx hy
theorem pop_down {xs : List α} {n : Nat} {a b : α} (h : Heap lt xs (n + 1) 0) (ha : xs[0]? = some a) (hb : xs[n]? = some b) : Down lt (sw xs 0 n a b) n 0 0 := by
  refine down_start fun p c x y hp hc hch hx hy => ?_
  rw [sw_get ha hb] at hx hy
  rw [if_neg (by unfold ch at hch; omega), if_neg (by omega)] at hx
  rw [if_neg (by omega), if_neg (by unfold ch at hch; omega)] at hy
  exact h p c x y (Nat.zero_le _) (by omega) hch hx hy
theorem pop_plain (hO : LO lt) {xs ys : List α} {n : Nat} {a b : α} (h : Heap lt xs (n + 1) 0) (hl : xs.length = n + 1) (ha : xs[0]? = some a) (hb : xs[n]? = some b) (h1 : ys.length = n + 1)
    (h2 : (ys.take n).Perm ((sw xs 0 n a b).take n)) (h3 : ys.drop n = (sw xs 0 n a b).drop n) (h4 : Heap lt ys n 0) :
    ys[n]? = some a ∧ xs.Perm (a :: ys.take n) ∧ (∀ y, y ∈ ys.take n → lt y a = false) ∧ Heap lt (ys.take n) n 0 ∧ (ys.take n).length = n := by
  have hs : (sw xs 0 n a b)[n]? = some a := by rw [sw_get ha hb, if_pos rfl]
  have hd : (sw xs 0 n a b).drop n = [a] := by
    have hlen : (sw xs 0 n a b).length = n + 1 := by rw [sw_length, hl]
    rw [List.drop_eq_getElem_cons (by omega), List.drop_of_length_le (by omega)]
    congr 1
    exact (List.getElem?_eq_some_iff.1 hs).2
  have hy : ys[n]? = some a := by
    have e : (ys.drop n)[0]? = some a := by rw [h3, hd]; rfl
    rwa [List.getElem?_drop, Nat.add_zero] at e
  have hp : xs.Perm (a :: ys.take n) := by
    have e : (sw xs 0 n a b).Perm (ys.take n ++ [a]) := by
      have := List.take_append_drop n (sw xs 0 n a b)
      rw [hd] at this
      rw [← this]
      exact h2.symm.append_right [a]
    exact ((sw_perm ha hb).symm.trans e).trans List.perm_append_comm
  refine ⟨hy, hp, fun y hy' => ?_, heap_take h4 (fun k hk => by rw [List.getElem?_take, if_pos hk]), by rw [List.length_take]; omega⟩
  have hm : y ∈ xs := hp.mem_iff.2 (List.mem_cons_of_mem _ hy')
  obtain ⟨k, hk⟩ := List.mem_iff_getElem?.1 hm
  have hk2 := (List.getElem?_eq_some_iff.1 hk).1
  exact heap_min hO h (by omega) ha k y (by omega) hk

/-- What a queue does: the drops in order, one more deed. -/
structure Qs (α : Type) where
  taken : List α
  left : List α
  vain : Nat
end Go.Proofs.Ytdkmmfhieapbaaa.Plain

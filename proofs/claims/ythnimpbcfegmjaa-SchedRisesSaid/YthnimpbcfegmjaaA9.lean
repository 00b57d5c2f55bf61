/-
  Merged texts of this seat: Pl6, Pl7.
-/
import Derived.Test.YthnimpbcfegmjaaA1
/-
  Plain: threads that lock in rising order, each lock once, and unlock what they hold, never stand still; what is left behind all their steps.
-/
namespace Go.Proofs.Ythnimpbcfegmjaa.Model
open Go.RowKit Go.Proofs.Ythnimpbcfegmjaa.P
set_option linter.unusedVariables false
set_option linter.unusedSimpArgs false

/-- What a thread needs: its locks in rising order, the cell and the number. -/
structure Nd where
  ls : List Nat
  c : Nat
  n : Int
def lockI (a : Nat) : S44 := ⟨0, a, 0⟩
def unlockI (a : Nat) : S44 := ⟨1, a, 0⟩
def thr (x : Nd) : List S44 := x.ls.map lockI ++ (⟨2, x.c, x.n⟩ :: x.ls.map unlockI)
theorem lockI0 (a : Nat) : (lockI a).f0 = 0 := rfl
structure Ok (x : Nd) : Prop where
  sorted : x.ls.Pairwise (· < ·)
  lt : ∀ a, a ∈ x.ls → a < 4
  c : x.c < 4
  l4 : x.ls.length ≤ 4
  n0 : 0 ≤ x.n
  n1 : x.n < 1000
def len (x : Nd) : Nat := 2 * x.ls.length + 1
theorem thr_len (x : Nd) : (thr x).length = len x := by unfold thr len; simp; omega
def holds (x : Nd) (j a : Nat) : Prop := a ∈ (if j ≤ x.ls.length then x.ls.take j else x.ls.drop (j - x.ls.length - 1))
theorem at_lock {x : Nd} {j : Nat} (h : j < x.ls.length) : ∃ a, x.ls[j]? = some a ∧ (thr x)[j]? = some (lockI a) := by
  refine ⟨x.ls[j], List.getElem?_eq_getElem h, ?_⟩
  unfold thr
  rw [List.getElem?_append_left (by simpa using h), List.getElem?_map, List.getElem?_eq_getElem h]
  rfl
theorem at_add (x : Nd) : (thr x)[x.ls.length]? = some ⟨2, x.c, x.n⟩ := by
  unfold thr
  rw [List.getElem?_append_right (by simp)]
  simp
theorem at_unlock {x : Nd} {i : Nat} (h : i < x.ls.length) : ∃ a, x.ls[i]? = some a ∧ (thr x)[x.ls.length + 1 + i]? = some (unlockI a) := by
  refine ⟨x.ls[i], List.getElem?_eq_getElem h, ?_⟩
  unfold thr
  rw [List.getElem?_append_right (by simp; omega), List.length_map, show x.ls.length + 1 + i - x.ls.length = i + 1 by omega, List.getElem?_cons_succ, List.getElem?_map, List.getElem?_eq_getElem h]
  rfl
theorem at_end {x : Nd} {j : Nat} (h : len x ≤ j) : (thr x)[j]? = none := List.getElem?_eq_none (by rw [thr_len]; exact h)
theorem holds_lock {x : Nd} {j a b : Nat} (h : j < x.ls.length) (ha : x.ls[j]? = some a) : holds x (j + 1) b ↔ holds x j b ∨ b = a := by
  unfold holds
  rw [if_pos (by omega), if_pos (by omega), List.take_add_one, ha]
  simp
theorem holds_add {x : Nd} {b : Nat} : holds x (x.ls.length + 1) b ↔ holds x x.ls.length b := by
  unfold holds
  rw [if_neg (by omega), if_pos (Nat.le_refl _), List.take_length, show x.ls.length + 1 - x.ls.length - 1 = 0 by omega, List.drop_zero]
theorem holds_unlock {x : Nd} {i a b : Nat} (hx : Ok x) (h : i < x.ls.length) (ha : x.ls[i]? = some a) : holds x (x.ls.length + 1 + i) a ∧ (holds x (x.ls.length + 1 + i + 1) b ↔ holds x (x.ls.length + 1 + i) b ∧ b ≠ a) := by
  unfold holds
  rw [if_neg (by omega), if_neg (by omega), show x.ls.length + 1 + i - x.ls.length - 1 = i by omega, show x.ls.length + 1 + i + 1 - x.ls.length - 1 = i + 1 by omega]
  have ha' := List.getElem?_eq_some_iff.1 ha
  obtain ⟨hi, rfl⟩ := ha'
  have hd : x.ls.drop i = x.ls[i] :: x.ls.drop (i + 1) := List.drop_eq_getElem_cons hi
  have hs : (x.ls.drop i).Pairwise (· < ·) := hx.sorted.sublist (List.drop_sublist _ _)
  rw [hd] at hs ⊢
  have hs1 := (List.pairwise_cons.1 hs).1
  refine ⟨List.mem_cons_self, fun hb => ⟨List.mem_cons_of_mem _ hb, fun e => ?_⟩, fun ⟨hb, hne⟩ => ?_⟩
  · subst e
    exact Nat.lt_irrefl _ (hs1 _ hb)
  · rcases List.mem_cons.1 hb with hb | hb
    · exact absurd hb hne
    · exact hb
theorem holds_end {x : Nd} {b : Nat} : ¬ holds x (len x) b := by
  unfold holds len
  rw [if_neg (by omega), List.drop_eq_nil_of_le (by omega)]
  exact List.not_mem_nil
theorem holds_below {x : Nd} {j a b : Nat} (hx : Ok x) (h : j < x.ls.length) (ha : x.ls[j]? = some a) (hb : holds x j b) : b < a := by
  unfold holds at hb
  rw [if_pos (by omega)] at hb
  obtain ⟨i, hi, rfl⟩ := List.mem_take_iff_getElem.1 hb
  obtain ⟨h1, rfl⟩ := List.getElem?_eq_some_iff.1 ha
  exact List.pairwise_iff_getElem.1 hx.sorted _ _ _ _ (by omega)
theorem holds_lt4 {x : Nd} {j b : Nat} (hx : Ok x) (h : holds x j b) : b < 4 := by
  unfold holds at h
  split at h
  · exact hx.lt _ (List.mem_of_mem_take h)
  · exact hx.lt _ (List.mem_of_mem_drop h)
/-- A sum over the threads and how far each is. -/
def sumZ (f : Nd → Nat → Int) : List Nd → List Nat → Int
  | x :: xs, k :: ks => f x k + sumZ f xs ks
  | _, _ => 0
theorem sumZ_set (f : Nd → Nat → Int) : ∀ (xs : List Nd) (ks : List Nat) (t : Nat) (x : Nd) (j j' : Nat), xs[t]? = some x → ks[t]? = some j → sumZ f xs (ks.set t j') = sumZ f xs ks - f x j + f x j' := by
  intro xs
  induction xs with
  | nil => intro ks t x j j' h; simp at h
  | cons y xs ih =>
    intro ks t x j j' hx hj
    cases ks with
    | nil => simp at hj
    | cons k ks =>
      cases t with
      | zero =>
        simp only [List.getElem?_cons_zero, Option.some.injEq] at hx hj
        subst hx hj
        simp only [List.set_cons_zero, sumZ]
        omega
      | succ t =>
        simp only [List.getElem?_cons_succ] at hx hj
        simp only [List.set_cons_succ, sumZ]
        rw [ih ks t x j j' hx hj]
        omega
theorem sumZ_bd (f : Nd → Nat → Int) (b : Int) : ∀ (xs : List Nd) (ks : List Nat), (∀ x ∈ xs, ∀ j, 0 ≤ f x j ∧ f x j ≤ b) → 0 ≤ b → 0 ≤ sumZ f xs ks ∧ sumZ f xs ks ≤ b * xs.length := by
  intro xs
  induction xs with
  | nil => intro ks h hb; simp [sumZ]
  | cons x xs ih =>
    intro ks h hb
    cases ks with
    | nil =>
      simp only [sumZ]
      exact ⟨Int.le_refl _, Int.mul_nonneg hb (by omega)⟩
    | cons k ks =>
      obtain ⟨h1, h2⟩ := h x List.mem_cons_self k
      obtain ⟨h3, h4⟩ := ih ks (fun y hy => h y (List.mem_cons_of_mem _ hy)) hb
      simp only [sumZ, List.length_cons]
      have e : b * ((xs.length + 1 : Nat) : Int) = b * xs.length + b := by rw [Int.natCast_add]; simp [Int.mul_add]
      rw [e]
      omega
theorem sumZ_zero (f : Nd → Nat → Int) : ∀ (xs : List Nd) (ks : List Nat), (∀ (t : Nat) (x : Nd) (j : Nat), xs[t]? = some x → ks[t]? = some j → 0 ≤ f x j) → sumZ f xs ks = 0 → ks.length = xs.length → ∀ (t : Nat) (x : Nd) (j : Nat), xs[t]? = some x → ks[t]? = some j → f x j = 0 := by
  intro xs
  induction xs with
  | nil => intro ks h h0 hl t x j hx; simp at hx
  | cons y xs ih =>
    intro ks h h0 hl t x j hx hj
    cases ks with
    | nil => simp at hl
    | cons k ks =>
      have hy := h 0 y k rfl rfl
      have htl : ∀ (t : Nat) (x : Nd) (j : Nat), xs[t]? = some x → ks[t]? = some j → 0 ≤ f x j := fun t x j hx hj => h (t + 1) x j (by simpa using hx) (by simpa using hj)
      have hnn : 0 ≤ sumZ f xs ks := sumZ_nn f xs ks htl
      simp only [sumZ] at h0
      cases t with
      | zero =>
        simp only [List.getElem?_cons_zero, Option.some.injEq] at hx hj
        subst hx hj
        omega
      | succ t =>
        simp only [List.getElem?_cons_succ] at hx hj
        exact ih ks htl (by omega) (by simpa using hl) t x j hx hj
where
  sumZ_nn (f : Nd → Nat → Int) : ∀ (xs : List Nd) (ks : List Nat), (∀ (t : Nat) (x : Nd) (j : Nat), xs[t]? = some x → ks[t]? = some j → 0 ≤ f x j) → 0 ≤ sumZ f xs ks := by
    intro xs
    induction xs with
    | nil => intro ks h; simp [sumZ]
    | cons y xs ih =>
      intro ks h
      cases ks with
      | nil => simp [sumZ]
      | cons k ks =>
        have hy := h 0 y k rfl rfl
        have := ih ks (fun t x j hx hj => h (t + 1) x j (by simpa using hx) (by simpa using hj))
        simp only [sumZ]
        omega
def fR (x : Nd) (j : Nat) : Int := (len x : Int) - j
def fC (c : Nat) (x : Nd) (j : Nat) : Int := if x.ls.length < j ∧ x.c = c then x.n else 0
structure RInv (xs : List Nd) (S : Syst) (k : List Nat) : Prop where
  th : S.th = xs.map thr
  at_ : S.at_ = k.map (fun j : Nat => (j : Int))
  kl : k.length = xs.length
  kle : ∀ (t : Nat) (x : Nd) (j : Nat), xs[t]? = some x → k[t]? = some j → j ≤ len x
  su : S.su = List.replicate xs.length 0
  ch : S.ch = [[], [], [], []]
  lol : S.lo.length = 4
  cel : S.ce.length = 4
  lo : ∀ a t : Nat, a < 4 → (S.lo[a]? = some (t : Int) ↔ ∃ x j, xs[t]? = some x ∧ k[t]? = some j ∧ holds x j a)
  lov : ∀ (a : Nat) (v : Int), S.lo[a]? = some v → v = -1 ∨ ∃ t : Nat, v = t ∧ t < xs.length
  ce : ∀ c, c < 4 → S.ce[c]? = some (sumZ (fC c) xs k)
theorem inv_ins {xs : List Nd} {S : Syst} {k : List Nat} (h : RInv xs S k) {t : Nat} {x : Nd} {j : Nat} (hx : xs[t]? = some x) (hj : k[t]? = some j) : insA S t = (thr x)[j]? := by
  unfold insA
  rw [h.th, h.at_, List.getElem?_map, hx, List.getElem?_map, hj]
  rfl
theorem fC_bd (c : Nat) {xs : List Nd} (hx : ∀ x ∈ xs, Ok x) (hn : xs.length ≤ 8) (ks : List Nat) : 0 ≤ sumZ (fC c) xs ks ∧ sumZ (fC c) xs ks ≤ 8000 := by
  have h := sumZ_bd (fC c) 1000 xs ks (fun x hm j => by
    have h1 := (hx x hm).n0
    have h2 := (hx x hm).n1
    unfold fC
    split <;> omega) (by omega)
  omega
theorem inv_step {xs : List Nd} (hok : ∀ x ∈ xs, Ok x) (hn : xs.length ≤ 8) {S : Syst} {k : List Nat} (h : RInv xs S k) {t : Nat} (hc : canB S t = true) : ∃ x j, xs[t]? = some x ∧ k[t]? = some j ∧ j < len x ∧ RInv xs (stepN S t) (k.set t (j + 1)) := by
  obtain ⟨i, hi, hci⟩ := canB_some hc
  have htl : t < xs.length := by
    obtain ⟨l, a, hl, -⟩ := insA_some hi
    rw [h.th] at hl
    have := (List.getElem?_eq_some_iff.1 hl).1
    simpa using this
  obtain ⟨x, hx⟩ : ∃ x, xs[t]? = some x := ⟨_, List.getElem?_eq_getElem htl⟩
  obtain ⟨j, hj⟩ : ∃ j, k[t]? = some j := ⟨_, List.getElem?_eq_getElem (by rw [h.kl]; exact htl)⟩
  have hin := inv_ins h hx hj
  rw [hi] at hin
  have hxo := hok x (List.mem_of_getElem? hx)
  have htk : t < k.length := (List.getElem?_eq_some_iff.1 hj).1
  have hjl : j < len x := by
    cases Nat.lt_or_ge j (len x) with
    | inl h => exact h
    | inr h => rw [at_end h] at hin; cases hin
  refine ⟨x, j, hx, hj, hjl, ?_⟩
  have hgat : S.at_.getD t 0 = (j : Int) := by rw [h.at_, List.getD_eq_getElem?_getD, List.getElem?_map, hj]; rfl
  have hat2 : S.at_.set t ((j : Int) + 1) = (k.set t (j + 1)).map (fun j : Nat => (j : Int)) := by
    rw [h.at_, List.map_set]
    congr 1
  have hkle : ∀ t' x' j', xs[t']? = some x' → (k.set t (j + 1))[t']? = some j' → j' ≤ len x' := fun t' x' j' hx' hj' => by
    rcases Nat.decEq t t' with hne | rfl
    · rw [List.getElem?_set_ne hne] at hj'
      exact h.kle t' x' j' hx' hj'
    · rw [List.getElem?_set_self htk] at hj'
      rw [hx] at hx'
      obtain rfl := Option.some.inj hx'
      obtain rfl := Option.some.inj hj'
      omega
  have hself : (k.set t (j + 1))[t]? = some (j + 1) := List.getElem?_set_self htk
  have hoth : ∀ {t' : Nat}, t ≠ t' → (k.set t (j + 1))[t']? = k[t']? := fun hne => List.getElem?_set_ne hne
  -- who holds what, behind the step: only the thread's own may change
  have hH : ∀ (a t' : Nat), (∃ x' j', xs[t']? = some x' ∧ (k.set t (j + 1))[t']? = some j' ∧ holds x' j' a) ↔ (if t = t' then holds x (j + 1) a else ∃ x' j', xs[t']? = some x' ∧ k[t']? = some j' ∧ holds x' j' a) := fun a t' => by
    split
    · rename_i e
      subst e
      constructor
      · rintro ⟨x', j', h1, h2, h3⟩
        rw [hx] at h1
        rw [hself] at h2
        obtain rfl := Option.some.inj h1
        obtain rfl := Option.some.inj h2
        exact h3
      · exact fun h3 => ⟨x, j + 1, hx, hself, h3⟩
    · rename_i hne
      rw [hoth hne]
  have hown : ∀ a, a < 4 → (S.lo[a]? = some (t : Int) ↔ holds x j a) := fun a ha => by
    rw [h.lo a t ha]
    constructor
    · rintro ⟨x', j', h1, h2, h3⟩
      rw [hx] at h1
      rw [hj] at h2
      obtain rfl := Option.some.inj h1
      obtain rfl := Option.some.inj h2
      exact h3
    · exact fun h3 => ⟨x, j, hx, hj, h3⟩
  rw [stepN_eq hi]
  unfold stepS
  rw [hgat]
  rcases Nat.lt_trichotomy j x.ls.length with hlt | rfl | hgt
  · -- a lock
    obtain ⟨a, ha, hta⟩ := at_lock hlt
    rw [hta] at hin
    obtain rfl := Option.some.inj hin
    have ha4 := hxo.lt a (List.mem_of_getElem? ha)
    have hfree : S.lo[a]? = some (-1) := by
      unfold canI at hci
      rw [if_pos (lockI0 a)] at hci
      have e : (lockI a).f1.toNat = a := rfl
      rw [e] at hci
      have := beq_iff_eq.1 hci
      rw [List.getD_eq_getElem?_getD] at this
      rw [List.getElem?_eq_getElem (by rw [h.lol]; exact ha4)] at this ⊢
      exact congrArg some this
    have hd : doI { S with at_ := S.at_.set t ((j : Int) + 1) } t (lockI a) = { S with at_ := S.at_.set t ((j : Int) + 1), lo := S.lo.set a t } := by
      unfold doI
      dsimp only
      rw [if_pos (lockI0 a)]
      rfl
    rw [hd]
    refine { th := h.th, at_ := hat2, kl := by rw [List.length_set]; exact h.kl, kle := hkle, su := h.su, ch := h.ch, lol := by show (S.lo.set a t).length = 4; rw [List.length_set]; exact h.lol, cel := h.cel, lo := fun b t' hb => ?_, lov := fun b v hv => ?_, ce := fun c hc4 => ?_ }
    · show (S.lo.set a t)[b]? = some (t' : Int) ↔ _
      rw [hH]
      rcases Nat.decEq a b with hne | rfl
      · rw [List.getElem?_set_ne hne]
        split
        · rename_i e
          subst e
          rw [hown b hb, holds_lock hlt ha]
          constructor
          · exact .inl
          · rintro (h1 | h1)
            · exact h1
            · exact absurd h1.symm hne
        · exact h.lo b t' hb
      · rw [List.getElem?_set_self (by rw [h.lol]; exact ha4)]
        split
        · rename_i e
          subst e
          exact ⟨fun _ => (holds_lock hlt ha).2 (.inr rfl), fun _ => rfl⟩
        · rename_i hne
          constructor
          · intro e
            have := Option.some.inj e
            omega
          · intro h1
            have h2 := (h.lo a t' hb).2 h1
            rw [hfree] at h2
            have := Option.some.inj h2
            omega
    · change (S.lo.set a t)[b]? = some v at hv
      rcases Nat.decEq a b with hne | rfl
      · rw [List.getElem?_set_ne hne] at hv
        exact h.lov b v hv
      · rw [List.getElem?_set_self (by rw [h.lol]; exact ha4)] at hv
        exact .inr ⟨t, (Option.some.inj hv).symm, htl⟩
    · show S.ce[c]? = _
      rw [sumZ_set _ _ _ _ _ _ _ hx hj, h.ce c hc4]
      congr 1
      unfold fC
      rw [if_neg (by omega), if_neg (by omega)]
      omega
  · -- the add
    rw [at_add] at hin
    obtain rfl := Option.some.inj hin
    have hc4 := hxo.c
    have hb := fC_bd x.c hok hn k
    have hn0 := hxo.n0
    have hn1 := hxo.n1
    have hg : S.ce.getD x.c 0 = sumZ (fC x.c) xs k := by rw [List.getD_eq_getElem?_getD, h.ce x.c hc4]; rfl
    have hw : wrap64 (sumZ (fC x.c) xs k + x.n) = sumZ (fC x.c) xs k + x.n := by unfold wrap64; omega
    have hd : doI { S with at_ := S.at_.set t (((x.ls.length : Nat) : Int) + 1) } t ⟨2, (x.c : Int), x.n⟩ = { S with at_ := S.at_.set t (((x.ls.length : Nat) : Int) + 1), ce := S.ce.set x.c (sumZ (fC x.c) xs k + x.n) } := by
      unfold doI
      dsimp only
      rw [if_neg (by decide), if_neg (by decide), if_pos rfl, Int.toNat_natCast, hg, hw]
    rw [hd]
    refine { th := h.th, at_ := hat2, kl := by rw [List.length_set]; exact h.kl, kle := hkle, su := h.su, ch := h.ch, lol := h.lol, cel := by show (S.ce.set _ _).length = 4; rw [List.length_set]; exact h.cel, lo := fun b t' hb => ?_, lov := h.lov, ce := fun c hc4' => ?_ }
    · show S.lo[b]? = some (t' : Int) ↔ _
      rw [hH]
      split
      · rename_i e
        subst e
        rw [hown b hb, holds_add]
      · exact h.lo b t' hb
    · show (S.ce.set x.c _)[c]? = _
      rw [sumZ_set _ _ _ _ _ _ _ hx hj]
      rcases Nat.decEq x.c c with hne | rfl
      · rw [List.getElem?_set_ne hne, h.ce c hc4']
        congr 1
        unfold fC
        rw [if_neg (by omega), if_neg (by omega)]
        omega
      · rw [List.getElem?_set_self (by rw [h.cel]; exact hc4)]
        congr 1
        unfold fC
        rw [if_neg (by omega), if_pos (by omega)]
        omega
  · -- an unlock
    obtain ⟨i0, rfl⟩ : ∃ i0, j = x.ls.length + 1 + i0 := ⟨j - x.ls.length - 1, by omega⟩
    have hi0 : i0 < x.ls.length := by unfold len at hjl; omega
    obtain ⟨a, ha, hta⟩ := at_unlock hi0
    rw [hta] at hin
    obtain rfl := Option.some.inj hin
    have ha4 := hxo.lt a (List.mem_of_getElem? ha)
    have hmine : S.lo[a]? = some (t : Int) := (hown a ha4).2 (holds_unlock (b := a) hxo hi0 ha).1
    have hd : doI { S with at_ := S.at_.set t (((x.ls.length + 1 + i0 : Nat) : Int) + 1) } t (unlockI a) = { S with at_ := S.at_.set t (((x.ls.length + 1 + i0 : Nat) : Int) + 1), lo := S.lo.set a (-1) } := by
      unfold doI
      dsimp only
      have e : (unlockI a).f1.toNat = a := rfl
      have e0 : (unlockI a).f0 = 1 := rfl
      rw [e0, e, if_neg (by decide), if_pos rfl, List.getD_eq_getElem?_getD, hmine, Option.getD_some, if_pos rfl]
    rw [hd]
    refine { th := h.th, at_ := hat2, kl := by rw [List.length_set]; exact h.kl, kle := hkle, su := h.su, ch := h.ch, lol := by show (S.lo.set a (-1)).length = 4; rw [List.length_set]; exact h.lol, cel := h.cel, lo := fun b t' hb => ?_, lov := fun b v hv => ?_, ce := fun c hc4 => ?_ }
    · show (S.lo.set a (-1))[b]? = some (t' : Int) ↔ _
      rw [hH]
      rcases Nat.decEq a b with hne | rfl
      · rw [List.getElem?_set_ne hne]
        split
        · rename_i e
          subst e
          rw [hown b hb, (holds_unlock (b := b) hxo hi0 ha).2]
          exact ⟨fun h1 => ⟨h1, fun e => hne e.symm⟩, fun h1 => h1.1⟩
        · exact h.lo b t' hb
      · rw [List.getElem?_set_self (by rw [h.lol]; exact ha4)]
        split
        · rename_i e
          subst e
          rw [(holds_unlock (b := a) hxo hi0 ha).2]
          constructor
          · intro e
            have := Option.some.inj e
            omega
          · exact fun h1 => absurd rfl h1.2
        · rename_i hne
          constructor
          · intro e
            have := Option.some.inj e
            omega
          · intro h1
            have h2 := (h.lo a t' hb).2 h1
            rw [hmine] at h2
            have := Option.some.inj h2
            omega
    · change (S.lo.set a (-1))[b]? = some v at hv
      rcases Nat.decEq a b with hne | rfl
      · rw [List.getElem?_set_ne hne] at hv
        exact h.lov b v hv
      · rw [List.getElem?_set_self (by rw [h.lol]; exact ha4)] at hv
        exact .inl (Option.some.inj hv).symm
    · show S.ce[c]? = _
      rw [sumZ_set _ _ _ _ _ _ _ hx hj, h.ce c hc4]
      congr 1
      unfold fC
      by_cases hcc : x.c = c
      · rw [if_pos (by omega), if_pos (by omega)]
        omega
      · rw [if_neg (by omega), if_neg (by omega)]
        omega
/-- A thread that isn't at its end either can go on, or waits for a lock that another one holds. -/
theorem can_or {xs : List Nd} (hok : ∀ x ∈ xs, Ok x) {S : Syst} {k : List Nat} (h : RInv xs S k) {t : Nat} {x : Nd} {j : Nat} (hx : xs[t]? = some x) (hj : k[t]? = some j) (hl : j < len x) :
    canB S t = true ∨ ∃ a, j < x.ls.length ∧ x.ls[j]? = some a ∧ ∃ (t' : Nat) (x' : Nd) (j' : Nat), xs[t']? = some x' ∧ k[t']? = some j' ∧ holds x' j' a := by
  have hin := inv_ins h hx hj
  have hxo := hok x (List.mem_of_getElem? hx)
  rcases Nat.lt_trichotomy j x.ls.length with hlt | rfl | hgt
  · obtain ⟨a, ha, hta⟩ := at_lock hlt
    have ha4 := hxo.lt a (List.mem_of_getElem? ha)
    obtain ⟨v, hv⟩ : ∃ v, S.lo[a]? = some v := ⟨_, List.getElem?_eq_getElem (by rw [h.lol]; exact ha4)⟩
    rcases h.lov a v hv with rfl | ⟨t', rfl, -⟩
    · left
      unfold canB
      rw [hin, hta]
      show canI S (lockI a) = true
      unfold canI
      rw [if_pos (lockI0 a)]
      have e : (lockI a).f1.toNat = a := rfl
      rw [e, List.getD_eq_getElem?_getD, hv]
      rfl
    · right
      exact ⟨a, hlt, ha, t', (h.lo a t' ha4).1 hv⟩
  · left
    unfold canB
    rw [hin, at_add]
    show canI S ⟨2, x.c, x.n⟩ = true
    rfl
  · left
    obtain ⟨i0, rfl⟩ : ∃ i0, j = x.ls.length + 1 + i0 := ⟨j - x.ls.length - 1, by omega⟩
    obtain ⟨a, ha, hta⟩ := at_unlock (x := x) (i := i0) (by unfold len at hl; omega)
    unfold canB
    rw [hin, hta]
    rfl
/-- So one can go on: the one that waits for the highest lock would wait for a thread that waits for a higher one. -/
theorem some_can {xs : List Nd} (hok : ∀ x ∈ xs, Ok x) {S : Syst} {k : List Nat} (h : RInv xs S k) : ∀ (d : Nat) (t : Nat) (x : Nd) (j : Nat), xs[t]? = some x → k[t]? = some j → j < len x → (∀ a, j < x.ls.length → x.ls[j]? = some a → 4 - a ≤ d) → ∃ t', canB S t' = true := by
  intro d
  induction d with
  | zero =>
    intro t x j hx hj hl hd
    rcases can_or hok h hx hj hl with hc | ⟨a, hlt, ha, -⟩
    · exact ⟨t, hc⟩
    · have h1 := hd a hlt ha
      have h2 := (hok x (List.mem_of_getElem? hx)).lt a (List.mem_of_getElem? ha)
      omega
  | succ d ih =>
    intro t x j hx hj hl hd
    rcases can_or hok h hx hj hl with hc | ⟨a, hlt, ha, t', x', j', hx', hj', hh⟩
    · exact ⟨t, hc⟩
    · have hok' := hok x' (List.mem_of_getElem? hx')
      have hle := h.kle t' x' j' hx' hj'
      have hne : j' ≠ len x' := fun e => by rw [e] at hh; exact holds_end hh
      refine ih t' x' j' hx' hj' (by omega) (fun b hlt' hb => ?_)
      have h1 := holds_below hok' hlt' hb hh
      have h2 := hd a hlt ha
      omega
def rem (xs : List Nd) (k : List Nat) : Int := sumZ fR xs k
theorem rem_step {xs : List Nd} {k : List Nat} {t : Nat} {x : Nd} {j : Nat} (hx : xs[t]? = some x) (hj : k[t]? = some j) : rem xs (k.set t (j + 1)) = rem xs k - 1 := by
  unfold rem
  rw [sumZ_set _ _ _ _ _ _ _ hx hj]
  unfold fR
  omega
theorem all_done {xs : List Nd} {S : Syst} {k : List Nat} (h : RInv xs S k) (h0 : rem xs k = 0) : ∀ (t : Nat) (x : Nd) (j : Nat), xs[t]? = some x → k[t]? = some j → j = len x := by
  intro t x j hx hj
  have h1 := sumZ_zero fR xs k (fun t x j hx hj => by have := h.kle t x j hx hj; unfold fR; omega) h0 h.kl t x j hx hj
  unfold fR at h1
  omega
theorem not_all {xs : List Nd} : ∀ {k : List Nat}, k.length = xs.length → 0 < rem xs k → ∃ (t : Nat) (x : Nd) (j : Nat), xs[t]? = some x ∧ k[t]? = some j ∧ j < len x := by
  induction xs with
  | nil => intro k hk h; simp [rem, sumZ] at h
  | cons y xs ih =>
    intro k hk h
    cases k with
    | nil => simp at hk
    | cons j k =>
      by_cases hj : j < len y
      · exact ⟨0, y, j, rfl, rfl, hj⟩
      · have h1 : 0 < rem xs k := by
          unfold rem at h ⊢
          simp only [sumZ] at h
          unfold fR at h
          unfold fR
          omega
        obtain ⟨t, x, j', hx, hj', hl⟩ := ih (by simpa using hk) h1
        exact ⟨t + 1, x, j', by simpa using hx, by simpa using hj', hl⟩
theorem run_inv {xs : List Nd} (hok : ∀ x ∈ xs, Ok x) (hn : xs.length ≤ 8) : ∀ (l : List Int) (r : Syst × List Int) (k : List Nat), RInv xs r.1 k → (l.length : Int) ≤ rem xs k → ∃ k', RInv xs (l.foldl pick1 r).1 k' ∧ rem xs k' = rem xs k - l.length ∧ (l.foldl pick1 r).2.length = r.2.length + l.length := by
  intro l
  induction l with
  | nil => intro r k h hl; exact ⟨k, h, by simp, by simp⟩
  | cons q l ih =>
    intro r k h hl
    rw [List.length_cons] at hl
    obtain ⟨t, x, j, hx, hj, hlt⟩ := not_all h.kl (by omega)
    obtain ⟨t', hc'⟩ := some_can hok h 4 t x j hx hj hlt (fun a _ _ => by omega)
    have hne : enL r.1 ≠ [] := by
      obtain ⟨i, hi, -⟩ := canB_some hc'
      obtain ⟨lx, a, hlx, -⟩ := insA_some hi
      have htl := (List.getElem?_eq_some_iff.1 hlx).1
      intro e
      have hm : (t' : Int) ∈ enL r.1 := by
        unfold enL
        exact List.mem_map.2 ⟨t', List.mem_filter.2 ⟨List.mem_range.2 htl, hc'⟩, rfl⟩
      rw [e] at hm
      exact List.not_mem_nil hm
    rw [List.foldl_cons, pick1_go hne]
    obtain ⟨x2, j2, hx2, hj2, -, hI⟩ := inv_step hok hn h (pickT_can q hne).2
    have hr := rem_step hx2 hj2
    obtain ⟨k', h1, h2, h3⟩ := ih (stepN r.1 (pickT r.1 q), r.2 ++ [(pickT r.1 q : Int)]) _ hI (by omega)
    refine ⟨k', h1, ?_, ?_⟩
    · rw [h2, hr, List.length_cons]
      omega
    · rw [h3, List.length_append]
      simp only [List.length_cons, List.length_nil]
      omega
end Go.Proofs.Ythnimpbcfegmjaa.Model
/-
  Plain: a new system of rising threads, run for all their steps, is at its end, with the sums in its cells and no lock held.
-/
namespace Go.Proofs.Ythnimpbcfegmjaa.Model
open Go.RowKit Go.Proofs.Ythnimpbcfegmjaa.P
set_option linter.unusedVariables false
set_option linter.unusedSimpArgs false

theorem thr_ok {x : Nd} (hx : Ok x) : ∀ i, i ∈ thr x → okI i = true := by
  intro i hi
  have h0 := hx.n0
  have h1 := hx.n1
  have h2 := hx.c
  unfold thr at hi
  have hB : ∀ a b c : Int, 0 ≤ a → a ≤ 4 → 0 ≤ b → b ≤ 3 → -1000 ≤ c → c ≤ 1000 → okI ⟨a, b, c⟩ = true := fun a b c g1 g2 g3 g4 g5 g6 => by
    simp only [okI, inB, Bool.and_eq_true, decide_eq_true_eq]
    omega
  rcases List.mem_append.1 hi with hi | hi
  · obtain ⟨a, ha, rfl⟩ := List.mem_map.1 hi
    have := hx.lt a ha
    exact hB 0 a 0 (by omega) (by omega) (by omega) (by omega) (by omega) (by omega)
  · rcases List.mem_cons.1 hi with rfl | hi
    · exact hB 2 x.c x.n (by omega) (by omega) (by omega) (by omega) (by omega) (by omega)
    · obtain ⟨a, ha, rfl⟩ := List.mem_map.1 hi
      have := hx.lt a ha
      exact hB 1 a 0 (by omega) (by omega) (by omega) (by omega) (by omega) (by omega)
theorem right_of {xs : List Nd} (hok : ∀ x ∈ xs, Ok x) (hn : xs.length ≤ 8) {S : Syst} {k : List Nat} (h : RInv xs S k) : rightB S = true := by
  have hthl : S.th.length = xs.length := by rw [h.th, List.length_map]
  have hatl : S.at_.length = xs.length := by rw [h.at_, List.length_map, h.kl]
  simp only [rightB, lenB, thsB, loB, chB, numB, thB, inB, Bool.and_eq_true, decide_eq_true_eq, List.all_eq_true]
  refine ⟨⟨by omega, by omega, by rw [h.su, List.length_replicate]; omega, h.lol, h.cel, by rw [h.ch]; rfl⟩, ?_, ?_, ?_, ?_⟩
  · rintro ⟨l, a⟩ hp
    obtain ⟨t, ht⟩ := List.mem_iff_getElem?.1 hp
    rw [List.getElem?_zip_eq_some] at ht
    obtain ⟨h1, h2⟩ := ht
    rw [h.th, List.getElem?_map] at h1
    rw [h.at_, List.getElem?_map] at h2
    obtain ⟨x, hx, rfl⟩ := Option.map_eq_some_iff.1 h1
    obtain ⟨j, hj, rfl⟩ := Option.map_eq_some_iff.1 h2
    have hxo := hok x (List.mem_of_getElem? hx)
    have h3 := h.kle t x j hx hj
    have h4 := hxo.l4
    refine ⟨?_, ⟨by omega, ?_⟩, fun i hi => thr_ok hxo i hi⟩
    · rw [thr_len]
      unfold len
      omega
    · show (j : Int) ≤ ((thr x).length : Int)
      rw [thr_len]
      omega
  · intro v hv
    obtain ⟨a, ha⟩ := List.mem_iff_getElem?.1 hv
    rcases h.lov a v ha with rfl | ⟨t, rfl, ht⟩
    · omega
    · omega
  · intro l hl
    rw [h.ch] at hl
    simp at hl
    subst hl
    exact Nat.zero_le _
  · have hz : smB 0 = true := by decide
    intro v hv
    rw [h.ch, h.su] at hv
    rcases List.mem_append.1 hv with hv | hv
    · rcases List.mem_append.1 hv with hv | hv
      · rw [List.eq_of_mem_replicate hv]
        exact hz
      · obtain ⟨c, hc⟩ := List.mem_iff_getElem?.1 hv
        have hcl : c < 4 := by
          have := (List.getElem?_eq_some_iff.1 hc).1
          rw [h.cel] at this
          exact this
        rw [h.ce c hcl] at hc
        obtain rfl := Option.some.inj hc
        have := fC_bd c hok hn k
        simp only [smB, Bool.and_eq_true, decide_eq_true_eq]
        omega
    · simp at hv
def steps (xs : List Nd) : Nat := (xs.map len).sum
def zeroK (xs : List Nd) : List Nat := List.replicate xs.length 0
theorem rem_zero (xs : List Nd) : rem xs (zeroK xs) = (steps xs : Int) := by
  unfold rem zeroK steps
  induction xs with
  | nil => rfl
  | cons x xs ih =>
    rw [List.length_cons, List.replicate_succ, List.map_cons, List.sum_cons]
    simp only [sumZ]
    rw [ih]
    unfold fR
    omega
theorem fC_zero (c : Nat) (xs : List Nd) : sumZ (fC c) xs (zeroK xs) = 0 := by
  unfold zeroK
  induction xs with
  | nil => rfl
  | cons x xs ih =>
    rw [List.length_cons, List.replicate_succ]
    simp only [sumZ]
    rw [ih]
    unfold fC
    rw [if_neg (by omega)]
    rfl
theorem inv_new (xs : List Nd) : RInv xs (newS (xs.map thr)) (zeroK xs) := by
  have h4 : ∀ a : Nat, a < 4 → ([-1, -1, -1, -1] : List Int)[a]? = some (-1) := fun a ha => by
    match a, ha with
    | 0, _ => rfl
    | 1, _ => rfl
    | 2, _ => rfl
    | 3, _ => rfl
  refine { th := rfl, at_ := ?_, kl := List.length_replicate, kle := fun t x j hx hj => ?_, su := ?_, ch := rfl, lol := rfl, cel := rfl, lo := fun a t ha => ?_, lov := fun a v hv => ?_, ce := fun c hc => ?_ }
  · unfold newS zeroK
    simp
  · unfold zeroK at hj
    rw [List.getElem?_replicate] at hj
    split at hj
    · obtain rfl := Option.some.inj hj
      exact Nat.zero_le _
    · cases hj
  · unfold newS
    simp
  · show ([-1, -1, -1, -1] : List Int)[a]? = some (t : Int) ↔ _
    rw [h4 a ha]
    constructor
    · intro e
      have := Option.some.inj e
      omega
    · rintro ⟨x, j, hx, hj, hh⟩
      unfold zeroK at hj
      rw [List.getElem?_replicate] at hj
      split at hj
      · obtain rfl := Option.some.inj hj
        unfold holds at hh
        rw [if_pos (Nat.zero_le _), List.take_zero] at hh
        exact absurd hh List.not_mem_nil
      · cases hj
  · change ([-1, -1, -1, -1] : List Int)[a]? = some v at hv
    have ha := (List.getElem?_eq_some_iff.1 hv).1
    rw [h4 a ha] at hv
    exact .inl (Option.some.inj hv).symm
  · show ([0, 0, 0, 0] : List Int)[c]? = _
    rw [fC_zero]
    match c, hc with
    | 0, _ => rfl
    | 1, _ => rfl
    | 2, _ => rfl
    | 3, _ => rfl
def cellOf (xs : List Nd) (c : Nat) : Int := (xs.map (fun x => if x.c = c then x.n else 0)).sum
def cellsL (xs : List Nd) : List Int := [cellOf xs 0, cellOf xs 1, cellOf xs 2, cellOf xs 3]
theorem fC_end (c : Nat) : ∀ (xs : List Nd) (k : List Nat), k.length = xs.length → (∀ (t : Nat) (x : Nd) (j : Nat), xs[t]? = some x → k[t]? = some j → j = len x) → sumZ (fC c) xs k = cellOf xs c := by
  intro xs
  induction xs with
  | nil => intro k hk h; cases k <;> rfl
  | cons x xs ih =>
    intro k hk h
    cases k with
    | nil => simp at hk
    | cons j k =>
      have h0 := h 0 x j rfl rfl
      have ht := ih k (by simpa using hk) (fun t x j hx hj => h (t + 1) x j (by simpa using hx) (by simpa using hj))
      simp only [sumZ]
      rw [ht]
      unfold cellOf
      rw [List.map_cons, List.sum_cons]
      congr 1
      subst h0
      unfold fC
      by_cases hc : x.c = c
      · rw [if_pos ⟨by unfold len; omega, hc⟩, if_pos hc]
      · rw [if_neg (fun e => hc e.2), if_neg hc]
theorem list4 {α : Type} {l : List α} {a b c d : α} (hl : l.length = 4) (h0 : l[0]? = some a) (h1 : l[1]? = some b) (h2 : l[2]? = some c) (h3 : l[3]? = some d) : l = [a, b, c, d] := by
  match l, hl with
  | [x, y, z, u], _ =>
    simp at h0 h1 h2 h3
    rw [h0, h1, h2, h3]
structure Rose (xs : List Nd) (r : Syst × List Int) : Prop where
  right : rightB r.1 = true
  done : doneB r.1 = true
  went : r.2.length = steps xs
  lo : r.1.lo = [-1, -1, -1, -1]
  ce : r.1.ce = cellsL xs
theorem rises {xs : List Nd} (hok : ∀ x ∈ xs, Ok x) (hn : xs.length ≤ 8) (l : List Int) (hl : l.length = steps xs) : Rose xs (runS (newS (xs.map thr)) l) := by
  have h0 := rem_zero xs
  obtain ⟨k, h, hr, hw⟩ := run_inv hok hn l (newS (xs.map thr), []) (zeroK xs) (inv_new xs) (by omega)
  have hr0 : rem xs k = 0 := by omega
  have had := all_done h hr0
  change RInv xs (runS (newS (xs.map thr)) l).1 k at h
  change (runS (newS (xs.map thr)) l).2.length = _ at hw
  have hlo : ∀ a, a < 4 → (runS (newS (xs.map thr)) l).1.lo[a]? = some (-1) := fun a ha => by
    obtain ⟨v, hv⟩ : ∃ v, (runS (newS (xs.map thr)) l).1.lo[a]? = some v := ⟨_, List.getElem?_eq_getElem (by rw [h.lol]; exact ha)⟩
    rcases h.lov a v hv with rfl | ⟨t, rfl, -⟩
    · exact hv
    · obtain ⟨x, j, hx, hj, hh⟩ := (h.lo a t ha).1 hv
      rw [had t x j hx hj] at hh
      exact absurd hh holds_end
  refine ⟨right_of hok hn h, ?_, by rw [hw, hl]; simp, list4 h.lol (hlo 0 (by omega)) (hlo 1 (by omega)) (hlo 2 (by omega)) (hlo 3 (by omega)), ?_⟩
  · unfold doneB
    rw [List.all_eq_true]
    rintro ⟨t, a⟩ hp
    obtain ⟨i, hi⟩ := List.mem_iff_getElem?.1 hp
    rw [List.getElem?_zip_eq_some] at hi
    obtain ⟨h1, h2⟩ := hi
    rw [h.th, List.getElem?_map] at h1
    rw [h.at_, List.getElem?_map] at h2
    obtain ⟨x, hx, rfl⟩ := Option.map_eq_some_iff.1 h1
    obtain ⟨j, hj, rfl⟩ := Option.map_eq_some_iff.1 h2
    have h3 := had i x j hx hj
    subst h3
    show decide (((thr x).length : Int) ≤ ((len x : Nat) : Int)) = true
    rw [thr_len]
    exact decide_eq_true (Int.le_refl _)
  · have hc : ∀ c, c < 4 → (runS (newS (xs.map thr)) l).1.ce[c]? = some (cellOf xs c) := fun c hc => by rw [h.ce c hc, fC_end c xs k h.kl had]
    exact list4 h.cel (hc 0 (by omega)) (hc 1 (by omega)) (hc 2 (by omega)) (hc 3 (by omega))
theorem rises0 {xs : List Nd} (hok : ∀ x ∈ xs, Ok x) (hn : xs.length ≤ 8) : rightB (newS (xs.map thr)) = true := right_of hok hn (inv_new xs)
end Go.Proofs.Ythnimpbcfegmjaa.Model

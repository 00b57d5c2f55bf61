/-
  RippleOnce, the pure law: what is pushed is taken or left, once; what is taken without a push between is in order; all that are pushed, and then taken, are sorted. For every input.
-/
import Derived.Test.YtdkmmfhieapbaaaPureSort
import Derived.Test.YtdkmmfhieapbaaaPx6
namespace Go.Proofs.Ytdkmmfhieapbaaa.Pure
open Go.RowKit Go.Proofs.YtdkmmfhieapbaaaW.PrintWords Go.Proofs.YtdkmmfhieapbaaaW.PrintLast Go.Proofs.Ytdkmmfhieapbaaa.P Go.Proofs.Ytdkmmfhieapbaaa.Own Go.Proofs.Ytdkmmfhieapbaaa.Plain
set_option linter.unusedVariables false

def pushed (y : List S43) : List S24 := (y.filter (fun x => !x.f0)).map (·.f1)
def takes (y : List S43) : Nat := (y.filter (·.f0)).length
theorem pushed_snoc (y : List S43) (x : S43) : pushed (y ++ [x]) = pushed y ++ if x.f0 = true then [] else [x.f1] := by
  unfold pushed
  cases h : x.f0 <;> simp [h]
theorem takes_snoc (y : List S43) (x : S43) : takes (y ++ [x]) = takes y + if x.f0 = true then 1 else 0 := by
  unfold takes
  cases h : x.f0 <;> simp [h]
theorem pushed_le (y : List S43) : (pushed y).length ≤ y.length := by
  unfold pushed; rw [List.length_map]; exact List.length_filter_le _ _
theorem takes_le (y : List S43) : takes y ≤ y.length := List.length_filter_le _ _
theorem snoc_ind {α : Type} {P : List α → Prop} (h0 : P []) (h1 : ∀ l x, P l → P (l ++ [x])) (l : List α) : P l := by
  obtain ⟨m, rfl⟩ : ∃ m : List α, l = m.reverse := ⟨l.reverse, by simp⟩
  induction m with
  | nil => exact h0
  | cons x m ih => rw [List.reverse_cons]; exact h1 _ _ ih
theorem run_facts (y : List S43) : ((runL y).1 ++ (runL y).2.1).Perm (pushed y) ∧ ((runL y).1.length : Int) + (runL y).2.2 = takes y ∧ Plain.Ord ltB (runL y).2.1 := by
  induction y using snoc_ind with
  | h0 => exact ⟨.refl _, by rfl, List.Pairwise.nil⟩
  | h1 y x ih =>
    obtain ⟨h1, h2, h3⟩ := ih
    rw [runL_snoc, pushed_snoc, takes_snoc]
    unfold stp
    cases hx : x.f0 with
    | true =>
      simp only [if_true, List.append_nil]
      split
      · next e =>
        rw [e] at h1
        simp only [List.append_nil] at h1 ⊢
        exact ⟨h1, by omega, List.Pairwise.nil⟩
      · next d L e =>
        rw [e] at h1 h3
        unfold Plain.Ord at h3
        rw [List.pairwise_cons] at h3
        exact ⟨by simpa using h1, by simp only [List.length_append, List.length_singleton]; omega, h3.2⟩
    | false =>
      simp only [Bool.false_eq_true, if_false, Nat.add_zero]
      refine ⟨?_, h2, ins_ord ltO _ h3⟩
      refine ((ins_perm x.f1 (runL y).2.1).append_left _).trans ?_
      refine (List.perm_middle).trans ?_
      exact (h1.cons x.f1).trans (List.perm_append_singleton _ _).symm
theorem foldl_pre (b : List S43) (s : RS) : ∃ t, (b.foldl stp s).1 = s.1 ++ t := by
  induction b generalizing s with
  | nil => exact ⟨[], by simp⟩
  | cons x b ih =>
    obtain ⟨t, ht⟩ := ih (stp s x)
    have : ∃ u, (stp s x).1 = s.1 ++ u := by
      unfold stp
      split
      · split
        · exact ⟨[], by simp⟩
        · exact ⟨_, rfl⟩
      · exact ⟨[], by simp⟩
    obtain ⟨u, hu⟩ := this
    exact ⟨u ++ t, by rw [List.foldl_cons, ht, hu, List.append_assoc]⟩
theorem run_pre (y : List S43) (i : Nat) : ∃ t, (runL y).1 = (runL (y.take i)).1 ++ t := by
  have e : runL y = (y.drop i).foldl stp (runL (y.take i)) := by
    unfold runL
    rw [← List.foldl_append, List.take_append_drop]
  rw [e]
  exact foldl_pre _ _
theorem run_push (p : List S24) (s : RS) : (p.map (fun d => (⟨false, d⟩ : S43))).foldl stp s = (s.1, p.foldl (fun acc d => ins ltB d acc) s.2.1, s.2.2) := by
  induction p generalizing s with
  | nil => rfl
  | cons d p ih => rw [List.map_cons, List.foldl_cons, ih]; rfl
def tk : S43 := ⟨true, ⟨0, 0⟩⟩
theorem run_take (L a : List S24) (v : Int) : (List.replicate L.length tk).foldl stp (a, L, v) = (a ++ L, [], v) := by
  induction L generalizing a with
  | nil => simp
  | cons d L ih =>
    rw [List.length_cons, List.replicate_succ, List.foldl_cons]
    have e : stp (a, d :: L, v) tk = (a ++ [d], L, v) := rfl
    rw [e, ih, List.append_assoc]
    rfl
theorem run_all (p : List S24) : runL (p.map (fun d => (⟨false, d⟩ : S43)) ++ List.replicate p.length tk) = (srt ltB p, [], 0) := by
  have h := run_take (srt ltB p) [] 0
  rw [srt_length, List.nil_append] at h
  unfold runL
  rw [List.foldl_append, run_push]
  exact h

theorem rd43 {l : List S43} {i : Nat} {x : S43} (h : l[i]? = some x) : rd_T43 l (i : Int) = x := by unfold rd_T43; rw [Int.toNat_natCast, List.getD_eq_getElem?_getD, h]; rfl

theorem once_l3 (p : List S24) (hp : p.length ≤ 80) : ∀ n i k, i + n = p.length → p.length < k → downpourlaw14_RippleOnce.l3 (k + n + 1) p (p.map (fun d => (⟨false, d⟩ : S43)) ++ List.replicate i tk) (p.length : Int) (i : Int) = some true := by
  intro n
  induction n with
  | zero =>
    intro i k h hk
    obtain rfl : i = p.length := by omega
    rw [downpourlaw14_RippleOnce.l3, if_neg (by omega), run_f _ (by simp; omega), Option.bind_some, run_all, sorted_f _ (by omega), Option.bind_some, same_self _ (by rw [srt_length]; omega) _ (by rw [srt_length]; omega), Option.bind_some, if_pos rfl]
    rfl
  | succ n ih =>
    intro i k h hk
    have e : k + (n + 1) + 1 = (k + n + 1) + 1 := by omega
    rw [e, downpourlaw14_RippleOnce.l3, if_pos (by omega), if_pos (by simp; omega), wrap_succ (i := i) (n := p.length) (by omega) (by omega), List.append_assoc]
    have e2 : List.replicate i tk ++ [tk] = List.replicate (i + 1) tk := by rw [List.replicate_succ']
    rw [show ([(⟨true, (⟨0, 0⟩ : S24)⟩ : S43)] : List S43) = [tk] from rfl, e2]
    exact ih (i + 1) k (by omega) hk
theorem once_l2 (p : List S24) (hp : p.length ≤ 80) : ∀ n i k, i + n = p.length → 2 * p.length + 2 < k → downpourlaw14_RippleOnce.l2 (k + n + 1) p ((p.take i).map (fun d => (⟨false, d⟩ : S43))) p (p.length : Int) (i : Int) = some true := by
  intro n
  induction n with
  | zero =>
    intro i k h hk
    obtain rfl : i = p.length := by omega
    obtain ⟨m, rfl⟩ : ∃ m, k = m + p.length + 1 := ⟨k - p.length - 1, by omega⟩
    rw [downpourlaw14_RippleOnce.l2, if_neg (by omega), List.take_length]
    have := once_l3 p hp p.length 0 m (by omega) (by omega)
    rw [List.replicate_zero, List.append_nil] at this
    exact this
  | succ n ih =>
    intro i k h hk
    have e : k + (n + 1) + 1 = (k + n + 1) + 1 := by omega
    obtain ⟨x, hx⟩ : ∃ x, p[i]? = some x := ⟨_, List.getElem?_eq_getElem (by omega)⟩
    rw [e, downpourlaw14_RippleOnce.l2, if_pos (by omega), if_pos (by omega), if_pos (by omega), if_pos (by simp; omega), rd_at hx, wrap_succ (i := i) (n := p.length) (by omega) (by omega)]
    have e2 : (p.take i).map (fun d => (⟨false, d⟩ : S43)) ++ [(⟨false, (⟨x.f0, x.f1⟩ : S24)⟩ : S43)] = (p.take (i + 1)).map (fun d => (⟨false, d⟩ : S43)) := by rw [take_snoc hx, List.map_append]; rfl
    rw [e2]
    exact ih (i + 1) k (by omega) hk

/-- What l1 knows of the last one taken. -/
def LastOk (T : List S24) (s : RS) (last : Int) : Prop := last = -1 ∨ ∃ (m : Nat) (d : S24), last = m ∧ s.1.length = m + 1 ∧ T[m]? = some d ∧ ∀ x, x ∈ s.2.1 → ltB x d = false
theorem once_l1 (y : List S43) (hy : y.length ≤ 80) (p : List S24) (hp : p.length ≤ 80) : ∀ n i k last, i + n = y.length → 3 * p.length + 4 < k → LastOk (runL y).1 (runL (y.take i)) last →
    downpourlaw14_RippleOnce.l1 (k + n + 1) (runL y).1 p ((runL (y.take i)).2.1.length : Int) ((runL (y.take i)).1.length : Int) last y (y.length : Int) (i : Int) = some true := by
  intro n
  induction n with
  | zero =>
    intro i k last h hk hl
    obtain ⟨m, rfl⟩ : ∃ m, k = m + p.length + 1 := ⟨k - p.length - 1, by omega⟩
    rw [downpourlaw14_RippleOnce.l1, if_neg (by omega)]
    exact once_l2 p hp p.length 0 m (by omega) (by omega)
  | succ n ih =>
    intro i k last h hk hl
    have e : k + (n + 1) + 1 = (k + n + 1) + 1 := by omega
    obtain ⟨x, hx⟩ : ∃ x, y[i]? = some x := ⟨_, List.getElem?_eq_getElem (by omega)⟩
    have hln := (runL_len (y.take i)).1
    rw [List.length_take] at hln
    have hsn : runL (y.take (i + 1)) = stp (runL (y.take i)) x := by rw [take_snoc hx, runL_snoc]
    have hih := fun last => ih (i + 1) k last (by omega) hk
    have hord := (run_facts (y.take i)).2.2
    obtain ⟨t, ht⟩ := run_pre y (i + 1)
    rw [hsn] at hih ht
    rw [e, downpourlaw14_RippleOnce.l1, if_pos (by omega), if_pos (by omega), if_pos (by omega), rd43 hx, wrap_succ (i := i) (n := y.length) (by omega) (by omega)]
    generalize runL (y.take i) = s at *
    obtain ⟨a, L, v⟩ := s
    simp only at hln hord hl
    unfold stp at hih ht
    cases hf : x.f0 with
    | false =>
      rw [hf] at hih
      simp only [Bool.false_eq_true, if_false, ins_length] at hih ⊢
      rw [show wrap64 ((L.length : Int) + 1) = ((L.length + 1 : Nat) : Int) by unfold wrap64; omega]
      exact hih (-1) (.inl rfl)
    | true =>
      rw [hf] at hih ht
      rw [if_pos rfl]
      simp only [if_true] at hih ht
      cases L with
      | nil =>
        rw [if_pos (by rfl)]
        exact hih last hl
      | cons d L =>
        simp only at hih ht
        dsimp only
        have hT : (runL y).1[a.length]? = some d := by rw [ht]; simp
        have hTl := (List.getElem?_eq_some_iff.1 hT).1
        unfold Plain.Ord at hord
        rw [List.pairwise_cons] at hord
        have hnext := hih (a.length : Int) (.inr ⟨a.length, d, rfl, by simp, hT, hord.1⟩)
        rw [List.length_append, List.length_singleton] at hnext
        have hcl : (d :: L).length = L.length + 1 := rfl
        have e1 : wrap64 ((((d :: L).length : Nat) : Int) - 1) = (L.length : Int) := by unfold wrap64; omega
        have e2 : wrap64 ((a.length : Int) + 1) = ((a.length + 1 : Nat) : Int) := by unfold wrap64; omega
        rw [e1, e2]
        clear e1 e2
        rw [if_neg (by rw [List.length_cons]; omega), if_neg (by omega)]
        rcases hl with rfl | ⟨m, d0, rfl, hm, hd0, hmin⟩
        · rw [if_neg (by omega)]
          exact hnext
        · simp only at hm hmin
          rw [if_pos (by omega), if_pos (by omega), if_pos (by omega), if_pos (by omega), if_pos (by omega), rd_at hT, rd_at hd0, ripBefore, Option.bind_some, hmin d List.mem_cons_self, if_neg (by simp)]
          exact hnext

theorem once_l0 (y : List S43) (hy : y.length ≤ 80) (T Lf : List S24) (V : Int) : ∀ n i k, i + n = y.length →
    downpourlaw14_RippleOnce.l0 (k + n + 1) y T Lf V (pushed (y.take i)) (takes (y.take i) : Int) y (y.length : Int) (i : Int) = downpourlaw14_RippleOnce.l0 (k + 1) y T Lf V (pushed y) (takes y : Int) y (y.length : Int) (y.length : Int) := by
  intro n
  induction n with
  | zero =>
    intro i k h
    obtain rfl : i = y.length := by omega
    rw [List.take_length]
  | succ n ih =>
    intro i k h
    have e : k + (n + 1) + 1 = (k + n + 1) + 1 := by omega
    obtain ⟨x, hx⟩ : ∃ x, y[i]? = some x := ⟨_, List.getElem?_eq_getElem (by omega)⟩
    have h1 := pushed_le (y.take i)
    have h2 := takes_le (y.take i)
    rw [List.length_take] at h1 h2
    have hih := ih (i + 1) k (by omega)
    rw [take_snoc hx, pushed_snoc, takes_snoc] at hih
    rw [e]
    conv => lhs; rw [downpourlaw14_RippleOnce.l0]
    rw [if_pos (by omega), if_pos (by omega), if_pos (by omega), rd43 hx, wrap_succ (i := i) (n := y.length) (by omega) (by omega)]
    cases hf : x.f0 with
    | true =>
      rw [hf] at hih
      simp only [if_true, List.append_nil] at hih
      rw [if_pos rfl, show wrap64 ((takes (y.take i) : Int) + 1) = ((takes (y.take i) + 1 : Nat) : Int) by unfold wrap64; omega]
      exact hih
    | false =>
      rw [hf] at hih
      simp only [Bool.false_eq_true, if_false, Nat.add_zero] at hih
      rw [if_neg (by simp), if_pos (by omega)]
      exact hih

theorem RippleOnce (l : List S43) : ∃ k, downpourlaw14_RippleOnce.f k l = some true := by
  refine ⟨5000, ?_⟩
  unfold downpourlaw14_RippleOnce.f
  have hmn : mn (l.length : Int) 80 = (min l.length 80 : Nat) := by unfold mn; split <;> omega
  rw [hmn, if_pos (by omega), if_pos (by omega), Option.bind_some, Int.toNat_natCast]
  obtain ⟨y, hyl⟩ : ∃ y, l.take (min l.length 80) = y := ⟨_, rfl⟩
  have hy : y.length ≤ 80 := by rw [← hyl, List.length_take]; omega
  rw [hyl, run_f y (by omega), Option.bind_some]
  obtain ⟨h1, h2, h3⟩ := run_facts y
  have hlen := (runL_len y).1
  have hv := (runL_len y).2
  have hpl := pushed_le y
  have h0 := once_l0 y hy (runL y).1 (runL y).2.1 (runL y).2.2 y.length 0 (5000 - 1 - y.length) (by omega)
  rw [show 5000 - 1 - y.length + y.length + 1 = 5000 by omega] at h0
  have e0 : pushed (y.take 0) = [] := rfl
  have e1 : takes (y.take 0) = 0 := rfl
  rw [e0, e1] at h0
  refine h0.trans ?_
  rw [downpourlaw14_RippleOnce.l0, if_neg (by omega), Option.bind_some, if_pos (by simp; omega), Option.bind_some, if_pos (by simp; omega), Option.bind_some, if_pos (by unfold wrap64; omega)]
  have hl2 : (([] ++ (runL y).1 ++ (runL y).2.1).length : Int) = ((pushed y).length : Int) := by rw [List.nil_append, h1.length_eq]
  have hs : srt ltB ([] ++ (runL y).1 ++ (runL y).2.1) = srt ltB (pushed y) := by rw [List.nil_append]; exact srt_congr ltO h1
  rw [if_pos hl2, sorted_f _ (by simp; omega), Option.bind_some, sorted_f _ (by omega), Option.bind_some, hs, same_self _ (by rw [srt_length]; omega) _ (by rw [srt_length]; omega), Option.bind_some, if_pos rfl, alive_f, Option.bind_some]
  obtain ⟨m, hm⟩ : ∃ m, 5000 - 1 - y.length = m + y.length + 1 + 1 := ⟨5000 - 1 - y.length - y.length - 2, by omega⟩
  rw [hm, downpourlaw14_RippleOnce.j1, if_neg (by decide)]
  exact once_l1 y hy (pushed y) (by omega) y.length 0 m (-1) (by omega) (by omega) (.inl rfl)
end Go.Proofs.Ytdkmmfhieapbaaa.Pure

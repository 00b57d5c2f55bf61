/-
  Plain: a step keeps the shape; picks.
-/
import Derived.Test.YthnimpbcfegmjaaModel
namespace Go.Proofs.Ythnimpbcfegmjaa.Model
open Go.RowKit Go.Proofs.Ythnimpbcfegmjaa.P
set_option linter.unusedVariables false

theorem insA_some {s : Syst} {t : Nat} {i : S44} (h : insA s t = some i) : ∃ l a, s.th[t]? = some l ∧ s.at_[t]? = some a ∧ l[a.toNat]? = some i := by
  unfold insA at h
  split at h
  · rename_i l a h1 h2
    exact ⟨l, a, h1, h2, h⟩
  · cases h
theorem canB_some {s : Syst} {t : Nat} (h : canB s t = true) : ∃ i, insA s t = some i ∧ canI s i = true := by
  unfold canB at h
  split at h
  · rename_i i hi
    exact ⟨i, hi, h⟩
  · cases h
/-- A step, by number. -/
def stepN (s : Syst) (t : Nat) : Syst := match insA s t with
  | some i => stepS s t i
  | none => s
theorem okI_b {i : S44} (h : okI i = true) : 0 ≤ i.f0 ∧ i.f0 ≤ 4 ∧ 0 ≤ i.f1 ∧ i.f1 ≤ 3 ∧ -1000 ≤ i.f2 ∧ i.f2 ≤ 1000 := by
  simp only [okI, inB, Bool.and_eq_true, decide_eq_true_eq] at h
  omega
theorem doI_th (s : Syst) (t : Nat) (i : S44) : (doI s t i).th = s.th ∧ (doI s t i).at_ = s.at_ := by
  unfold doI
  dsimp only
  repeat' split
  all_goals exact ⟨rfl, rfl⟩
theorem stepN_th (s : Syst) (t : Nat) : (stepN s t).th = s.th := by
  unfold stepN
  split
  · exact (doI_th _ _ _).1
  · rfl
theorem mem_set_or {α : Type} {l : List α} {k : Nat} {x y : α} (h : y ∈ l.set k x) : y ∈ l ∨ y = x := List.mem_or_eq_of_mem_set h
theorem step_shp {s : Syst} {t : Nat} {i : S44} (hS : Shp s) (hi : insA s t = some i) (hc : canI s i = true) : Shp (stepS s t i) := by
  obtain ⟨l, a, hl, ha, hli⟩ := insA_some hi
  have htl := (List.getElem?_eq_some_iff.1 hl).1
  have hta := (List.getElem?_eq_some_iff.1 ha).1
  obtain ⟨b1, b2, b3, b4⟩ := hS.th t l a hl ha
  have hal := (List.getElem?_eq_some_iff.1 hli).1
  have hoi := b4 i (List.mem_of_getElem? hli)
  obtain ⟨o1, o2, o3, o4, -, -⟩ := okI_b hoi
  have h0 : Shp { s with at_ := s.at_.set t (s.at_.getD t 0 + 1) } := by
    have hg : s.at_.getD t 0 = a := by rw [List.getD_eq_getElem?_getD, ha]; rfl
    refine { hS with at_ := by rw [List.length_set]; exact hS.at_, th := fun t' l' a' hl' ha' => ?_ }
    rw [hg] at ha'
    rcases Nat.decEq t t' with hne | rfl
    · rw [List.getElem?_set_ne hne] at ha'
      exact hS.th t' l' a' hl' ha'
    · rw [List.getElem?_set_self hta] at ha'
      have hl2 : s.th[t]? = some l' := hl'
      rw [hl] at hl2
      obtain rfl := Option.some.inj hl2
      obtain rfl := Option.some.inj ha'
      exact ⟨b1, by omega, by omega, b4⟩
  have hsu := h0.su
  unfold stepS
  generalize hs1 : ({ s with at_ := s.at_.set t (s.at_.getD t 0 + 1) } : Syst) = s1 at h0
  have hth : s1.th = s.th := by rw [← hs1]
  have hch : s1.ch = s.ch := by rw [← hs1]
  unfold doI
  dsimp only
  split
  · refine { h0 with lo := by rw [List.length_set]; exact h0.lo, los := fun x hx => ?_ }
    rcases mem_set_or hx with hx | rfl
    · exact h0.los x hx
    · exact ⟨by omega, by rw [hth]; exact Int.ofNat_lt.2 htl⟩
  · split
    · split
      · refine { h0 with lo := by rw [List.length_set]; exact h0.lo, los := fun x hx => ?_ }
        rcases mem_set_or hx with hx | rfl
        · exact h0.los x hx
        · exact ⟨by omega, by omega⟩
      · exact h0
    · split
      · exact { h0 with ce := by rw [List.length_set]; exact h0.ce }
      · split
        · rename_i h3
          refine { h0 with ch := by rw [List.length_set]; exact h0.ch, chs := fun x hx => ?_ }
          rcases mem_set_or hx with hx | rfl
          · exact h0.chs x hx
          · have hc2 : (s.ch.getD i.f1.toNat []).length < 2 := by
              unfold canI at hc
              rw [if_neg (by omega), if_pos h3] at hc
              exact of_decide_eq_true hc
            rw [hch, List.length_append, List.length_singleton]
            omega
        · split
          · refine { h0 with su := by rw [List.length_set]; exact h0.su, ch := by rw [List.length_set]; exact h0.ch, chs := fun x hx => ?_ }
            rcases mem_set_or hx with hx | rfl
            · exact h0.chs x hx
            · rw [List.length_drop]
              by_cases hk : i.f1.toNat < s1.ch.length
              · have := h0.chs (s1.ch.getD i.f1.toNat []) (by rw [List.getD_eq_getElem?_getD, List.getElem?_eq_getElem hk]; exact List.getElem_mem hk)
                omega
              · rw [List.getD_eq_getElem?_getD, List.getElem?_eq_none (by omega)]
                simp
          · exact h0
theorem stepN_eq {s : Syst} {t : Nat} {i : S44} (h : insA s t = some i) : stepN s t = stepS s t i := by unfold stepN; rw [h]
theorem stepN_shp {s : Syst} {t : Nat} (hS : Shp s) (h : canB s t = true) : Shp (stepN s t) := by
  obtain ⟨i, hi, hc⟩ := canB_some h
  rw [stepN_eq hi]
  exact step_shp hS hi hc
theorem mem_enL {s : Syst} {x : Int} (h : x ∈ enL s) : ∃ t : Nat, x = t ∧ t < s.th.length ∧ canB s t = true := by
  unfold enL at h
  obtain ⟨t, ht, rfl⟩ := List.mem_map.1 h
  obtain ⟨h1, h2⟩ := List.mem_filter.1 ht
  exact ⟨t, rfl, List.mem_range.1 h1, h2⟩
/-- Which thread a pick means. -/
def pickI (q n : Int) : Int := Int.tmod (Int.tmod q n + n) n
theorem pickI_lt {q n : Int} (hn : 0 < n) : 0 ≤ pickI q n ∧ pickI q n < n := by
  unfold pickI
  have h1 := Int.tmod_lt_of_pos q hn
  have h2 : -n < Int.tmod q n := by
    have := Int.lt_tmod_of_pos q hn
    omega
  exact ⟨Int.tmod_nonneg _ (by omega), Int.tmod_lt_of_pos _ hn⟩
theorem pick_eq {q : Int} {n j : Nat} (hn : 0 < n) (hn8 : n ≤ 8) (hj : pickI q n = j) : (wrap64 (Int.tmod q n + n)).tmod n = j := by
  have h1 := Int.tmod_lt_of_pos q (b := (n : Int)) (by omega)
  have h2 := Int.lt_tmod_of_pos q (b := (n : Int)) (by omega)
  have hw : wrap64 (Int.tmod q n + n) = Int.tmod q n + n := by unfold wrap64; omega
  rw [hw]
  exact hj
def pickT (s : Syst) (q : Int) : Nat := ((enL s).getD (pickI q (enL s).length).toNat 0).toNat
def pick1 (r : Syst × List Int) (q : Int) : Syst × List Int := if enL r.1 = [] then r else (stepN r.1 (pickT r.1 q), r.2 ++ [(pickT r.1 q : Int)])
/-- A system behind picks, and who went on. -/
def runS (s : Syst) (l : List Int) : Syst × List Int := l.foldl pick1 (s, [])
theorem pickT_mem {s : Syst} (q : Int) (h : enL s ≠ []) : (pickT s q : Int) ∈ enL s ∧ (enL s).getD (pickI q (enL s).length).toNat 0 = (pickT s q : Int) ∧ (pickI q (enL s).length).toNat < (enL s).length := by
  have hp : 0 < (enL s).length := List.length_pos_iff.2 h
  obtain ⟨h1, h2⟩ := pickI_lt (q := q) (n := (enL s).length) (by omega)
  have hlt : (pickI q (enL s).length).toNat < (enL s).length := by omega
  have hm : (enL s).getD (pickI q (enL s).length).toNat 0 ∈ enL s := by
    rw [List.getD_eq_getElem?_getD, List.getElem?_eq_getElem hlt]
    exact List.getElem_mem hlt
  obtain ⟨t, ht, _, _⟩ := mem_enL hm
  have he : (pickT s q : Int) = (enL s).getD (pickI q (enL s).length).toNat 0 := by
    unfold pickT
    rw [ht]
    rfl
  exact ⟨by rw [he]; exact hm, he.symm, hlt⟩
theorem pickT_can {s : Syst} (q : Int) (h : enL s ≠ []) : pickT s q < s.th.length ∧ canB s (pickT s q) = true := by
  obtain ⟨t, e, h1, h2⟩ := mem_enL (pickT_mem q h).1
  have e' : pickT s q = t := by omega
  rw [e']
  exact ⟨h1, h2⟩
theorem pick1_stop {r : Syst × List Int} (h : enL r.1 = []) (q : Int) : pick1 r q = r := if_pos h
theorem pick1_go {r : Syst × List Int} (h : enL r.1 ≠ []) (q : Int) : pick1 r q = (stepN r.1 (pickT r.1 q), r.2 ++ [(pickT r.1 q : Int)]) := if_neg h
theorem fold_stop {r : Syst × List Int} (h : enL r.1 = []) (l : List Int) : l.foldl pick1 r = r := by
  induction l with
  | nil => rfl
  | cons q l ih => rw [List.foldl_cons, pick1_stop h, ih]
def runTo (s : Syst) (l : List Int) (k : Nat) : Syst × List Int := runS s (l.take k)
theorem runTo_succ {s : Syst} {l : List Int} {k : Nat} {q : Int} (h : l[k]? = some q) : runTo s l (k + 1) = pick1 (runTo s l k) q := by
  unfold runTo runS
  rw [List.take_add_one, h, List.foldl_append]
  rfl
theorem runTo_stop {s : Syst} {l : List Int} {k : Nat} (h : enL (runTo s l k).1 = []) : runS s l = runTo s l k := by
  unfold runTo runS at *
  conv => lhs; rw [← List.take_append_drop k l, List.foldl_append]
  exact fold_stop h _
theorem runTo_all (s : Syst) (l : List Int) : runTo s l l.length = runS s l := by unfold runTo; rw [List.take_length]
theorem pick1_shp {r : Syst × List Int} (h : Shp r.1) (q : Int) : Shp (pick1 r q).1 ∧ (pick1 r q).1.th = r.1.th := by
  by_cases he : enL r.1 = []
  · rw [pick1_stop he]; exact ⟨h, rfl⟩
  · rw [pick1_go he]; exact ⟨stepN_shp h (pickT_can q he).2, stepN_th _ _⟩
theorem fold_shp {r : Syst × List Int} (h : Shp r.1) (l : List Int) : Shp (l.foldl pick1 r).1 ∧ (l.foldl pick1 r).1.th = r.1.th := by
  induction l generalizing r with
  | nil => exact ⟨h, rfl⟩
  | cons q l ih =>
    obtain ⟨h1, h2⟩ := pick1_shp h q
    obtain ⟨h3, h4⟩ := ih h1
    exact ⟨h3, h4.trans h2⟩
theorem runTo_shp {s : Syst} (h : Shp s) (l : List Int) (k : Nat) : Shp (runTo s l k).1 ∧ (runTo s l k).1.th = s.th := fold_shp (r := (s, [])) h _
theorem fold_len (r : Syst × List Int) (l : List Int) : (l.foldl pick1 r).2.length ≤ r.2.length + l.length := by
  induction l generalizing r with
  | nil => exact Nat.le_refl _
  | cons q l ih =>
    refine Nat.le_trans (ih _) ?_
    rw [List.length_cons]
    unfold pick1
    split
    · omega
    · simp; omega
theorem runTo_len (s : Syst) (l : List Int) (k : Nat) : (runTo s l k).2.length ≤ k := by
  refine Nat.le_trans (fold_len (s, []) _) ?_
  simp
  omega
end Go.Proofs.Ythnimpbcfegmjaa.Model

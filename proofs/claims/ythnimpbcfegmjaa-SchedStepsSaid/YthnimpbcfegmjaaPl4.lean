/-
  Plain: what the reference's Can, Enabled and Done answer.
-/
import Derived.Test.YthnimpbcfegmjaaA3
import Derived.Test.YthnimpbcfegmjaaPx10
import Derived.Test.YthnimpbcfegmjaaPx11
import Derived.Test.YthnimpbcfegmjaaPz2
namespace Go.Proofs.Ythnimpbcfegmjaa.Own
open Go.RowKit Go.Proofs.YthnimpbcfegmjaaW.PrintWords Go.Proofs.YthnimpbcfegmjaaW.PrintLast Go.Proofs.YthnimpbcfegmjaaW.PrintMore Go.Proofs.Ythnimpbcfegmjaa.P Go.Proofs.Ythnimpbcfegmjaa.Model
set_option linter.unusedVariables false
set_option linter.unusedSimpArgs false

theorem rdT4 {l : List S44} {i : Nat} {x : S44} (h : l[i]? = some x) : rd_T44 l (i : Int) = x := by unfold rd_T44; rw [Int.toNat_natCast, List.getD_eq_getElem?_getD, h]; rfl
theorem rdC4 {l : List (List Int)} {i : Nat} {x : List Int} (h : l[i]? = some x) : rd_L3 l (i : Int) = x := by unfold rd_L3; rw [Int.toNat_natCast, List.getD_eq_getElem?_getD, h]; rfl
theorem dropH {α : Type} {l : List α} {i : Nat} {x : α} (h : l[i]? = some x) : l.drop i = x :: l.drop (i + 1) := by
  obtain ⟨hlt, rfl⟩ := List.getElem?_eq_some_iff.1 h
  exact List.drop_eq_getElem_cons hlt
theorem can_f (s : Syst) (hS : Shp s) (t : Nat) (ht : t < s.th.length) : downpourref20_Can.f s.th s.at_ s.su s.lo s.ce s.ch (t : Int) = some (canB s t) := by
  have hat := hS.at_
  obtain ⟨l, hl⟩ : ∃ l, s.th[t]? = some l := ⟨_, List.getElem?_eq_getElem ht⟩
  obtain ⟨a, ha⟩ : ∃ a, s.at_[t]? = some a := ⟨_, List.getElem?_eq_getElem (by omega)⟩
  obtain ⟨h16, h0, hal, hok⟩ := hS.th t l a hl ha
  obtain ⟨k, rfl⟩ : ∃ k : Nat, a = k := ⟨a.toNat, by omega⟩
  have hin : insA s t = l[k]? := by unfold insA; rw [hl, ha]; rfl
  unfold downpourref20_Can.f
  rw [if_pos (by omega), if_pos (by omega), if_pos (by omega), rdI ha, rdT hl]
  by_cases hk : k < l.length
  · obtain ⟨i, hi⟩ : ∃ i, l[k]? = some i := ⟨_, List.getElem?_eq_getElem hk⟩
    have hc : canB s t = canI s i := by unfold canB; rw [hin, hi]
    have hoi := hok i (List.mem_of_getElem? hi)
    obtain ⟨o1, o2, o3, o4, -, -⟩ := okI_b hoi
    obtain ⟨m, hm⟩ : ∃ m : Nat, i.f1 = m := ⟨i.f1.toNat, by omega⟩
    have hlo := hS.lo
    have hch := hS.ch
    obtain ⟨x, hx⟩ : ∃ x, s.lo[m]? = some x := ⟨_, List.getElem?_eq_getElem (by omega)⟩
    obtain ⟨y, hy⟩ : ∃ y, s.ch[m]? = some y := ⟨_, List.getElem?_eq_getElem (by omega)⟩
    rw [if_neg (by omega), if_pos (by omega), if_pos (by omega), rdT4 hi, hc, hm]
    unfold canI
    rw [hm, Int.toNat_natCast, List.getD_eq_getElem?_getD, hx, List.getD_eq_getElem?_getD, hy]
    by_cases h0 : i.f0 = 0
    · have hxb := hS.los x (List.mem_of_getElem? hx)
      rw [if_pos h0, if_pos h0, if_pos (by omega), if_pos (by omega), rdI hx]
      congr 1
      rw [Option.getD_some, Bool.eq_iff_iff, decide_eq_true_eq, beq_iff_eq]
      omega
    · rw [if_neg h0, if_neg h0]
      by_cases h3 : i.f0 = 3
      · rw [if_pos h3, if_pos h3, if_pos (by omega), if_pos (by omega), rdC4 hy]
        congr 1
        rw [Option.getD_some, decide_eq_decide]
        omega
      · rw [if_neg h3, if_neg h3]
        by_cases h4 : i.f0 = 4
        · rw [if_pos h4, if_pos h4, if_pos (by omega), if_pos (by omega), rdC4 hy]
          congr 1
          rw [Option.getD_some, decide_eq_decide]
          omega
        · rw [if_neg h4, if_neg h4]
  · rw [if_pos (by omega)]
    have hc : canB s t = false := by
      unfold canB
      rw [hin, List.getElem?_eq_none (by omega)]
    rw [hc]
def casts (l : List Nat) : List Int := l.map (fun t : Nat => (t : Int))
theorem en_loop (s : Syst) (hS : Shp s) : ∀ (n i k : Nat) (x : List Int), n = s.th.length - i → i ≤ s.th.length → n < k → x.length ≤ i → downpourref20_Enabled.l0 k x (s.th.length : Int) (i : Int) s.th s.at_ s.su s.lo s.ce s.ch = some (x ++ casts ((List.range' i n).filter (canB s))) := by
  intro n
  have h8 := hS.n
  induction n with
  | zero =>
    intro i k x hn hi hk hx
    obtain ⟨k, rfl⟩ : ∃ k', k = k' + 1 := ⟨k - 1, by omega⟩
    unfold downpourref20_Enabled.l0
    rw [if_neg (by omega)]
    simp [casts]
  | succ n ih =>
    intro i k x hn hi hk hx
    obtain ⟨k, rfl⟩ : ∃ k', k = k' + 1 := ⟨k - 1, by omega⟩
    unfold downpourref20_Enabled.l0
    rw [if_pos (by omega), can_f s hS i (by omega), Option.bind_some, wr1 (by omega), List.range'_succ, List.filter_cons]
    cases hc : canB s i with
    | true =>
      rw [if_pos rfl, if_pos (by omega), if_pos rfl, ih (i + 1) k _ (by omega) (by omega) (by omega) (by simp; omega), List.append_assoc]
      rfl
    | false =>
      rw [if_neg (by decide), if_neg (by decide), ih (i + 1) k _ (by omega) (by omega) (by omega) (by omega)]
theorem en_f (s : Syst) (hS : Shp s) : downpourref20_Enabled.f 100 s.th s.at_ s.su s.lo s.ce s.ch = some (enL s) := by
  have h8 := hS.n
  unfold downpourref20_Enabled.f
  have h := en_loop s hS s.th.length 0 100 [] rfl (Nat.zero_le _) (by omega) (Nat.le_refl _)
  rw [show (0 : Int) = ((0 : Nat) : Int) from rfl, h, List.nil_append]
  unfold enL casts
  rw [List.range_eq_range']
theorem done_loop (s : Syst) (hS : Shp s) : ∀ (n i k : Nat), n = s.th.length - i → i ≤ s.th.length → n < k → downpourref20_Done.l0 k s.th (s.th.length : Int) (i : Int) s.th s.at_ s.su s.lo s.ce s.ch = some (((s.th.zip s.at_).drop i).all (fun p => decide ((p.1.length : Int) ≤ p.2))) := by
  intro n
  have h8 := hS.n
  have hat := hS.at_
  induction n with
  | zero =>
    intro i k hn hi hk
    obtain ⟨k, rfl⟩ : ∃ k', k = k' + 1 := ⟨k - 1, by omega⟩
    unfold downpourref20_Done.l0
    rw [if_neg (by omega), List.drop_eq_nil_of_le (by rw [List.length_zip]; omega)]
    rfl
  | succ n ih =>
    intro i k hn hi hk
    obtain ⟨k, rfl⟩ : ∃ k', k = k' + 1 := ⟨k - 1, by omega⟩
    obtain ⟨l, hl⟩ : ∃ l, s.th[i]? = some l := ⟨_, List.getElem?_eq_getElem (by omega)⟩
    obtain ⟨a, ha⟩ : ∃ a, s.at_[i]? = some a := ⟨_, List.getElem?_eq_getElem (by omega)⟩
    have hz : (s.th.zip s.at_)[i]? = some (l, a) := by rw [List.getElem?_zip_eq_some]; exact ⟨hl, ha⟩
    unfold downpourref20_Done.l0
    rw [if_pos (by omega), if_pos (by omega), if_pos (by omega), if_pos (by omega), rdI ha, rdT hl, dropH hz, List.all_cons]
    by_cases h : a < (l.length : Int)
    · rw [if_pos h, decide_eq_false (show ¬ ((l.length : Int) ≤ a) by omega), Bool.false_and]
    · rw [if_neg h, decide_eq_true (show (l.length : Int) ≤ a by omega), Bool.true_and, wr1 (by omega), ih (i + 1) k (by omega) (by omega) (by omega)]
theorem done_f (s : Syst) (hS : Shp s) : downpourref20_Done.f 100 s.th s.at_ s.su s.lo s.ce s.ch = some (doneB s) := by
  have h8 := hS.n
  have h := done_loop s hS s.th.length 0 100 rfl (Nat.zero_le _) (by omega)
  rw [List.drop_zero] at h
  exact h
end Go.Proofs.Ythnimpbcfegmjaa.Own

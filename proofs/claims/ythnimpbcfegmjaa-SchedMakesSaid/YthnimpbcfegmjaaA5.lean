/-
  Merged texts of this seat: Pl2, Pl3, S22, S23.
-/
import Derived.Test.YthnimpbcfegmjaaA3
import Derived.Test.YthnimpbcfegmjaaQx2
import Derived.Test.YthnimpbcfegmjaaPx6
import Derived.Test.YthnimpbcfegmjaaPz1
/-
  Plain: when two systems are the same; what the printed Same, Numbers, Equal answer.
-/
namespace Go.Proofs.Ythnimpbcfegmjaa.Own
open Go.RowKit Go.Proofs.YthnimpbcfegmjaaW.PrintWords Go.Proofs.YthnimpbcfegmjaaW.PrintLast Go.Proofs.YthnimpbcfegmjaaW.PrintMore Go.Proofs.Ythnimpbcfegmjaa.P Go.Proofs.Ythnimpbcfegmjaa.Model
set_option linter.unusedVariables false
set_option linter.unusedSimpArgs false

def key (i : S44) : Int × Int × Int := (i.f0, i.f1, i.f2)
def eqT (l m : List S44) : Bool := decide (l.map key = m.map key)
def eqI (l m : List Int) : Bool := decide (l = m)
theorem drop_get {α : Type} {l : List α} {i : Nat} {x : α} (h : l[i]? = some x) : l.drop i = x :: l.drop (i + 1) := by
  obtain ⟨hi, e⟩ := List.getElem?_eq_some_iff.1 h
  rw [List.drop_eq_getElem_cons hi, e]
theorem num_gen (l m : List Int) (hl : l.length ≤ 1000) (hlm : l.length = m.length) : ∀ (n i k : Nat), n = l.length - i → i ≤ l.length → n < k → downpourref01_Numbers.l0 k l m (l.length : Int) (i : Int) = some (eqI (l.drop i) (m.drop i)) := by
  intro n
  induction n with
  | zero =>
    intro i k hn hi hk
    obtain ⟨k, rfl⟩ : ∃ k', k = k' + 1 := ⟨k - 1, by omega⟩
    unfold downpourref01_Numbers.l0
    rw [if_neg (by omega), List.drop_eq_nil_of_le (by omega), List.drop_eq_nil_of_le (by omega)]
    simp [eqI]
  | succ n ih =>
    intro i k hn hi hk
    obtain ⟨k, rfl⟩ : ∃ k', k = k' + 1 := ⟨k - 1, by omega⟩
    unfold downpourref01_Numbers.l0
    obtain ⟨x, hx⟩ : ∃ x, l[i]? = some x := ⟨_, List.getElem?_eq_getElem (by omega)⟩
    obtain ⟨y, hy⟩ : ∃ y, m[i]? = some y := ⟨_, List.getElem?_eq_getElem (by omega)⟩
    rw [if_pos (by omega), if_pos (by omega), if_pos (by omega), if_pos (by omega), rdI hx, rdI hy, drop_get hx, drop_get hy]
    by_cases h : x = y
    · rw [if_pos h, wr1 (by omega), ih (i + 1) k (by omega) (by omega) (by omega)]
      subst h
      simp [eqI]
    · rw [if_neg h]
      simp [eqI, h]
theorem num_eq (l m : List Int) (hl : l.length ≤ 1000) (k : Nat) (hk : l.length < k) : downpourref01_Numbers.f k l m = some (eqI l m) := by
  unfold downpourref01_Numbers.f
  by_cases h : l.length = m.length
  · rw [if_pos (by omega)]
    exact num_gen l m hl h l.length 0 k rfl (Nat.zero_le _) hk
  · rw [if_neg (by omega)]
    have : l ≠ m := fun e => h (by rw [e])
    simp [eqI, this]
theorem equ_gen (l m : List Int) (hl : l.length ≤ 1000) (hlm : l.length = m.length) : ∀ (n i k : Nat), n = l.length - i → i ≤ l.length → n < k → Q.slices_Equal_int_int.l0 k l m (l.length : Int) (i : Int) = some (eqI (l.drop i) (m.drop i)) := by
  intro n
  induction n with
  | zero =>
    intro i k hn hi hk
    obtain ⟨k, rfl⟩ : ∃ k', k = k' + 1 := ⟨k - 1, by omega⟩
    unfold Q.slices_Equal_int_int.l0
    rw [if_neg (by omega), List.drop_eq_nil_of_le (by omega), List.drop_eq_nil_of_le (by omega)]
    simp [eqI]
  | succ n ih =>
    intro i k hn hi hk
    obtain ⟨k, rfl⟩ : ∃ k', k = k' + 1 := ⟨k - 1, by omega⟩
    unfold Q.slices_Equal_int_int.l0
    obtain ⟨x, hx⟩ : ∃ x, l[i]? = some x := ⟨_, List.getElem?_eq_getElem (by omega)⟩
    obtain ⟨y, hy⟩ : ∃ y, m[i]? = some y := ⟨_, List.getElem?_eq_getElem (by omega)⟩
    rw [if_pos (by omega), if_pos (by omega), if_pos (by omega), if_pos (by omega), rdI hx, rdI hy, drop_get hx, drop_get hy]
    by_cases h : x = y
    · rw [if_pos h, wr1 (by omega), ih (i + 1) k (by omega) (by omega) (by omega)]
      subst h
      simp [eqI]
    · rw [if_neg h]
      simp [eqI, h]
theorem equ_eq (l m : List Int) (hl : l.length ≤ 1000) (k : Nat) (hk : l.length < k) : Q.slices_Equal_int_int.f k l m = some (eqI l m) := by
  unfold Q.slices_Equal_int_int.f
  by_cases h : l.length = m.length
  · rw [if_pos (by omega)]
    exact equ_gen l m hl h l.length 0 k rfl (Nat.zero_le _) hk
  · rw [if_neg (by omega)]
    have : l ≠ m := fun e => h (by rw [e])
    simp [eqI, this]
theorem rdT44 {l : List S44} {i : Nat} {x : S44} (h : l[i]? = some x) : rd_T44 l (i : Int) = x := by unfold rd_T44; rw [Int.toNat_natCast, List.getD_eq_getElem?_getD, h]; rfl
theorem key_ne (x y : S44) : ((!(x.f0 == y.f0) || (!(x.f1 == y.f1) || (!(x.f2 == y.f2)))) = true) ↔ key x ≠ key y := by
  unfold key
  simp only [Bool.or_eq_true, Bool.not_eq_true', beq_eq_false_iff_ne, ne_eq, Prod.mk.injEq]
  by_cases h0 : x.f0 = y.f0 <;> by_cases h1 : x.f1 = y.f1 <;> by_cases h2 : x.f2 = y.f2 <;> simp [h0, h1, h2]
theorem ins_gen (l m : List S44) (hl : l.length ≤ 1000) (hlm : l.length = m.length) : ∀ (n i k : Nat), n = l.length - i → i ≤ l.length → n < k → downpourref20_instrs.l0 k l m (l.length : Int) (i : Int) = some (eqT (l.drop i) (m.drop i)) := by
  intro n
  induction n with
  | zero =>
    intro i k hn hi hk
    obtain ⟨k, rfl⟩ : ∃ k', k = k' + 1 := ⟨k - 1, by omega⟩
    unfold downpourref20_instrs.l0
    rw [if_neg (by omega), List.drop_eq_nil_of_le (by omega), List.drop_eq_nil_of_le (by omega)]
    simp [eqT]
  | succ n ih =>
    intro i k hn hi hk
    obtain ⟨k, rfl⟩ : ∃ k', k = k' + 1 := ⟨k - 1, by omega⟩
    unfold downpourref20_instrs.l0
    obtain ⟨x, hx⟩ : ∃ x, l[i]? = some x := ⟨_, List.getElem?_eq_getElem (by omega)⟩
    obtain ⟨y, hy⟩ : ∃ y, m[i]? = some y := ⟨_, List.getElem?_eq_getElem (by omega)⟩
    rw [if_pos (by omega), if_pos (by omega), if_pos (by omega), if_pos (by omega), rdT44 hx, rdT44 hy, drop_get hx, drop_get hy]
    by_cases h : key x = key y
    · rw [if_neg (fun hh => (key_ne x y).1 hh h), wr1 (by omega), ih (i + 1) k (by omega) (by omega) (by omega)]
      simp [eqT, h]
    · rw [if_pos ((key_ne x y).2 h)]
      simp [eqT, h]
theorem ins_eq (l m : List S44) (hl : l.length ≤ 1000) (k : Nat) (hk : l.length < k) : downpourref20_instrs.f k l m = some (eqT l m) := by
  unfold downpourref20_instrs.f
  by_cases h : l.length = m.length
  · rw [if_pos (by omega)]
    exact ins_gen l m hl h l.length 0 k rfl (Nat.zero_le _) hk
  · rw [if_neg (by omega)]
    have : l.map key ≠ m.map key := fun e => h (by have := congrArg List.length e; simpa using this)
    simp [eqT, this]
/-- Threads, channels that are the same, row by row. -/
def eqTs (l m : List (List S44)) : Bool := decide (l.map (List.map key) = m.map (List.map key))
def eqCs (l m : List (List Int)) : Bool := decide (l = m)
def restB (a b : Syst) : Bool := eqI a.at_ b.at_ && (eqI a.su b.su && (eqI a.lo b.lo && eqI a.ce b.ce))
def sameB (a b : Syst) : Bool := eqTs a.th b.th && (eqCs a.ch b.ch && restB a b)
theorem same_g1 (a b : Syst) (ha : Bd a) (hlen : a.ch.length = b.ch.length) : ∀ (n i k : Nat), n = a.ch.length - i → i ≤ a.ch.length → n + 200 < k → downpourref20_Same.l1 k (a.ch.length : Int) (i : Int) a.th a.at_ a.su a.lo a.ce a.ch b.th b.at_ b.su b.lo b.ce b.ch = some (eqCs (a.ch.drop i) (b.ch.drop i) && restB a b) := by
  intro n
  induction n with
  | zero =>
    intro i k hn hi hk
    obtain ⟨k, rfl⟩ : ∃ k', k = k' + 1 := ⟨k - 1, by omega⟩
    unfold downpourref20_Same.l1
    have h1 := ha.n1
    have h2 := ha.n2
    have h3 := ha.n3
    have h4 := ha.n4
    rw [if_neg (by omega), List.drop_eq_nil_of_le (by omega), List.drop_eq_nil_of_le (by omega), num_eq a.at_ b.at_ (by omega) k (by omega), Option.bind_some, num_eq a.su b.su (by omega) k (by omega), num_eq a.lo b.lo (by omega) k (by omega), num_eq a.ce b.ce (by omega) k (by omega)]
    unfold restB
    cases eqI a.at_ b.at_ <;> cases eqI a.su b.su <;> cases eqI a.lo b.lo <;> cases eqI a.ce b.ce <;> simp [eqCs]
  | succ n ih =>
    intro i k hn hi hk
    obtain ⟨k, rfl⟩ : ∃ k', k = k' + 1 := ⟨k - 1, by omega⟩
    unfold downpourref20_Same.l1
    have h5 := ha.n5
    obtain ⟨x, hx⟩ : ∃ x, a.ch[i]? = some x := ⟨_, List.getElem?_eq_getElem (by omega)⟩
    obtain ⟨y, hy⟩ : ∃ y, b.ch[i]? = some y := ⟨_, List.getElem?_eq_getElem (by omega)⟩
    have ex : rd_L3 a.ch (i : Int) = x := by unfold rd_L3; rw [Int.toNat_natCast, List.getD_eq_getElem?_getD, hx]; rfl
    have ey : rd_L3 b.ch (i : Int) = y := by unfold rd_L3; rw [Int.toNat_natCast, List.getD_eq_getElem?_getD, hy]; rfl
    have hxl := ha.c x (List.mem_of_getElem? hx)
    rw [if_pos (by omega), if_pos (by omega), if_pos (by omega), if_pos (by omega), ex, ey, num_eq x y (by omega) k (by omega), Option.bind_some, drop_get hx, drop_get hy]
    by_cases h : x = y
    · subst h
      rw [if_pos (by simp [eqI]), wr1 (by omega), ih (i + 1) k (by omega) (by omega) (by omega)]
      simp [eqCs]
    · rw [if_neg (by simp [eqI, h])]
      simp [eqCs, h]
theorem same_g0 (a b : Syst) (ha : Bd a) (hlen : a.th.length = b.th.length) (hlc : a.ch.length = b.ch.length) : ∀ (n i k : Nat), n = a.th.length - i → i ≤ a.th.length → n + 400 < k → downpourref20_Same.l0 k (a.th.length : Int) (i : Int) a.th a.at_ a.su a.lo a.ce a.ch b.th b.at_ b.su b.lo b.ce b.ch = some (eqTs (a.th.drop i) (b.th.drop i) && (eqCs a.ch b.ch && restB a b)) := by
  intro n
  induction n with
  | zero =>
    intro i k hn hi hk
    obtain ⟨k, rfl⟩ : ∃ k', k = k' + 1 := ⟨k - 1, by omega⟩
    unfold downpourref20_Same.l0
    have h5 := ha.n5
    have h := same_g1 a b ha hlc a.ch.length 0 k rfl (Nat.zero_le _) (by omega)
    rw [if_neg (by omega), List.drop_eq_nil_of_le (by omega), List.drop_eq_nil_of_le (by omega)]
    refine h.trans ?_
    simp [eqTs]
  | succ n ih =>
    intro i k hn hi hk
    obtain ⟨k, rfl⟩ : ∃ k', k = k' + 1 := ⟨k - 1, by omega⟩
    unfold downpourref20_Same.l0
    have h5 := ha.n0
    obtain ⟨x, hx⟩ : ∃ x, a.th[i]? = some x := ⟨_, List.getElem?_eq_getElem (by omega)⟩
    obtain ⟨y, hy⟩ : ∃ y, b.th[i]? = some y := ⟨_, List.getElem?_eq_getElem (by omega)⟩
    have hxl := ha.t x (List.mem_of_getElem? hx)
    rw [if_pos (by omega), if_pos (by omega), if_pos (by omega), if_pos (by omega), rdT hx, rdT hy, ins_eq x y (by omega) k (by omega), Option.bind_some, drop_get hx, drop_get hy]
    by_cases h : x.map key = y.map key
    · rw [if_pos (by simp [eqT, h]), wr1 (by omega), ih (i + 1) k (by omega) (by omega) (by omega)]
      simp [eqTs, h]
    · rw [if_neg (by simp [eqT, h])]
      simp [eqTs, h]
theorem same_eq (a b : Syst) (ha : Bd a) : downpourref20_Same.f 1000 a.th a.at_ a.su a.lo a.ce a.ch b.th b.at_ b.su b.lo b.ce b.ch = some (sameB a b) := by
  unfold downpourref20_Same.f
  have hj : ∀ k, downpourref20_Same.j0 (k + 1) false a.th a.at_ a.su a.lo a.ce a.ch b.th b.at_ b.su b.lo b.ce b.ch = downpourref20_Same.l0 k (a.th.length : Int) 0 a.th a.at_ a.su a.lo a.ce a.ch b.th b.at_ b.su b.lo b.ce b.ch := fun k => by
    simp [downpourref20_Same.j0]
  have hjt : ∀ k, downpourref20_Same.j0 (k + 1) true a.th a.at_ a.su a.lo a.ce a.ch b.th b.at_ b.su b.lo b.ce b.ch = some false := fun k => by
    simp [downpourref20_Same.j0]
  by_cases h1 : a.th.length = b.th.length
  · rw [if_pos (by omega)]
    by_cases h2 : a.ch.length = b.ch.length
    · rw [h2, bne_self_eq_false]
      have h3 := same_g0 a b ha h1 h2 a.th.length 0 999 rfl (Nat.zero_le _) (by have := ha.n0; omega)
      exact (hj 999).trans h3
    · have e : ((a.ch.length : Int) != (b.ch.length : Int)) = true := by simp; omega
      rw [e]
      refine (hjt 999).trans ?_
      have : a.ch ≠ b.ch := fun e => h2 (by rw [e])
      simp [sameB, eqCs, this]
  · rw [if_neg (by omega)]
    refine (hjt 999).trans ?_
    have : a.th.map (List.map key) ≠ b.th.map (List.map key) := fun e => h1 (by have := congrArg List.length e; simpa using this)
    simp [sameB, eqTs, this]
theorem sameB_refl (a : Syst) : sameB a a = true := by simp [sameB, eqTs, eqCs, restB, eqI]
end Go.Proofs.Ythnimpbcfegmjaa.Own
/-
  Plain: the printed Right of the reference is the model's.
-/
namespace Go.Proofs.Ythnimpbcfegmjaa.Own
open Go.RowKit Go.Proofs.YthnimpbcfegmjaaW.PrintWords Go.Proofs.YthnimpbcfegmjaaW.PrintLast Go.Proofs.YthnimpbcfegmjaaW.PrintMore Go.Proofs.Ythnimpbcfegmjaa.P Go.Proofs.Ythnimpbcfegmjaa.Model
set_option linter.unusedVariables false
set_option linter.unusedSimpArgs false

theorem dropG {α : Type} {l : List α} {i : Nat} {x : α} (h : l[i]? = some x) : l.drop i = x :: l.drop (i + 1) := by
  obtain ⟨hi, e⟩ := List.getElem?_eq_some_iff.1 h
  rw [List.drop_eq_getElem_cons hi, e]
theorem small_loop (l : List Int) (hl : l.length ≤ 1000) : ∀ (n i k : Nat), n = l.length - i → i ≤ l.length → n < k → downpourref20_small.l0 k l (l.length : Int) (i : Int) = some ((l.drop i).all smB) := by
  intro n
  induction n with
  | zero =>
    intro i k hn hi hk
    obtain ⟨k, rfl⟩ : ∃ k', k = k' + 1 := ⟨k - 1, by omega⟩
    unfold downpourref20_small.l0
    rw [if_neg (by omega), List.drop_eq_nil_of_le (by omega)]
    rfl
  | succ n ih =>
    intro i k hn hi hk
    obtain ⟨k, rfl⟩ : ∃ k', k = k' + 1 := ⟨k - 1, by omega⟩
    unfold downpourref20_small.l0
    obtain ⟨x, hx⟩ : ∃ x, l[i]? = some x := ⟨_, List.getElem?_eq_getElem (by omega)⟩
    rw [if_pos (by omega), if_pos (by omega), if_pos (by omega), rdI hx, dropG hx, List.all_cons]
    by_cases h1 : x ≤ -1073741824
    · rw [if_pos h1, show smB x = false by unfold smB; rw [decide_eq_false (by omega)]; rfl, Bool.false_and]
    · rw [if_neg h1]
      by_cases h2 : x ≥ 1073741824
      · rw [if_pos h2, show smB x = false by unfold smB; rw [decide_eq_false (show ¬ x < 1073741824 by omega), Bool.and_false], Bool.false_and]
      · rw [if_neg h2, wr1 (by omega), ih (i + 1) k (by omega) (by omega) (by omega), show smB x = true by unfold smB; rw [decide_eq_true (by omega), decide_eq_true (by omega)]; rfl, Bool.true_and]
theorem small_eq (l : List Int) (hl : l.length ≤ 1000) (k : Nat) (hk : l.length < k) : downpourref20_small.f k l = some (l.all smB) := small_loop l hl l.length 0 k rfl (Nat.zero_le _) hk
theorem instr_eq (a b c : Int) : downpourref20_instr.f a b c = some (okI ⟨a, b, c⟩) := by
  unfold downpourref20_instr.f okI inB
  dsimp only
  by_cases h1 : a ≥ 0
  · rw [if_pos h1]
    by_cases h2 : a ≤ 4
    · rw [if_pos h2]
      by_cases h3 : b ≥ 0
      · rw [if_pos h3]
        by_cases h4 : b ≤ 3
        · rw [if_pos h4]
          by_cases h5 : c ≥ -1000
          · rw [if_pos h5, decide_eq_true (show 0 ≤ a from h1), decide_eq_true h2, decide_eq_true (show 0 ≤ b from h3), decide_eq_true h4, decide_eq_true (show -1000 ≤ c from h5)]
            rfl
          · rw [if_neg h5, decide_eq_false (show ¬ -1000 ≤ c from h5)]
            simp
        · rw [if_neg h4, decide_eq_false h4]
          simp
      · rw [if_neg h3, decide_eq_false (show ¬ 0 ≤ b from h3)]
        simp
    · rw [if_neg h2, decide_eq_false h2]
      simp
  · rw [if_neg h1, decide_eq_false (show ¬ 0 ≤ a from h1)]
    simp
theorem rdS {l : List S44} {i : Nat} {x : S44} (h : l[i]? = some x) : rd_T44 l (i : Int) = x := by unfold rd_T44; rw [Int.toNat_natCast, List.getD_eq_getElem?_getD, h]; rfl
theorem thr_l1 (s : Syst) (t : Int) (row : List S44) (hr : row.length ≤ 1000) : ∀ (n i k : Nat), n = row.length - i → i ≤ row.length → downpourref20_threads.l1 (k + n + 1) s.th (s.th.length : Int) t row (row.length : Int) (i : Int) s.th s.at_ s.su s.lo s.ce s.ch = if (row.drop i).all okI = true then downpourref20_threads.l0 k s.th (s.th.length : Int) (wrap64 (t + 1)) s.th s.at_ s.su s.lo s.ce s.ch else some false := by
  intro n
  induction n with
  | zero =>
    intro i k hn hi
    unfold downpourref20_threads.l1
    rw [if_neg (by omega), List.drop_eq_nil_of_le (by omega)]
    rfl
  | succ n ih =>
    intro i k hn hi
    rw [show k + (n + 1) + 1 = (k + n + 1) + 1 by omega]
    unfold downpourref20_threads.l1
    obtain ⟨x, hx⟩ : ∃ x, row[i]? = some x := ⟨_, List.getElem?_eq_getElem (by omega)⟩
    rw [if_pos (by omega), if_pos (by omega), if_pos (by omega), rdS hx, instr_eq, Option.bind_some, dropG hx, List.all_cons]
    by_cases h : okI x = true
    · rw [if_pos h, wr1 (by omega), ih (i + 1) k (by omega) (by omega), h, Bool.true_and]
    · have h2 : okI x = false := by simpa using h
      rw [if_neg h, h2, Bool.false_and, if_neg (by decide)]
theorem thr_l0 (s : Syst) (hb : Bd s) (ha : s.at_.length = s.th.length) : ∀ (n t k : Nat), n = s.th.length - t → t ≤ s.th.length → n * 25 < k → downpourref20_threads.l0 k s.th (s.th.length : Int) (t : Int) s.th s.at_ s.su s.lo s.ce s.ch = some (((s.th.zip s.at_).drop t).all (fun p => thB p.1 p.2)) := by
  intro n
  induction n with
  | zero =>
    intro t k hn ht hk
    obtain ⟨k, rfl⟩ : ∃ k', k = k' + 1 := ⟨k - 1, by omega⟩
    unfold downpourref20_threads.l0
    rw [if_neg (by omega), List.drop_eq_nil_of_le (by rw [List.length_zip]; omega)]
    rfl
  | succ n ih =>
    intro t k hn ht hk
    have h100 := hb.n0
    obtain ⟨k, rfl⟩ : ∃ k', k = k' + 2 := ⟨k - 2, by omega⟩
    obtain ⟨l, hl⟩ : ∃ l, s.th[t]? = some l := ⟨_, List.getElem?_eq_getElem (by omega)⟩
    obtain ⟨a, hat⟩ : ∃ a, s.at_[t]? = some a := ⟨_, List.getElem?_eq_getElem (by omega)⟩
    have hz : (s.th.zip s.at_)[t]? = some (l, a) := by rw [List.getElem?_zip_eq_some]; exact ⟨hl, hat⟩
    have hll := hb.t l (List.mem_of_getElem? hl)
    have hj : ∀ k, downpourref20_threads.j2 (k + 1) l s.th (s.th.length : Int) (t : Int) true s.th s.at_ s.su s.lo s.ce s.ch = some false := fun k => by simp [downpourref20_threads.j2]
    have hj0 : ∀ k, downpourref20_threads.j2 (k + 1) l s.th (s.th.length : Int) (t : Int) false s.th s.at_ s.su s.lo s.ce s.ch = downpourref20_threads.l1 k s.th (s.th.length : Int) (t : Int) l (l.length : Int) 0 s.th s.at_ s.su s.lo s.ce s.ch := fun k => by simp [downpourref20_threads.j2]
    rw [dropG hz, List.all_cons]
    unfold downpourref20_threads.l0
    rw [if_pos (by omega), if_pos (by omega), if_pos (by omega), rdT hl]
    by_cases h1 : (l.length : Int) > 16
    · rw [if_pos h1, hj]
      have : thB l a = false := by unfold thB; rw [decide_eq_false (by omega)]; rfl
      rw [this]
      rfl
    · rw [if_neg h1, if_pos (by omega), rdI hat]
      by_cases h2 : a < 0
      · rw [if_pos h2, hj]
        have : thB l a = false := by unfold thB inB; rw [decide_eq_false (show ¬ 0 ≤ a by omega)]; simp
        rw [this]
        rfl
      · rw [if_neg h2]
        by_cases h3 : a > (l.length : Int)
        · rw [decide_eq_true h3, hj]
          have : thB l a = false := by unfold thB inB; rw [decide_eq_false (show ¬ a ≤ (l.length : Int) by omega)]; simp
          rw [this]
          rfl
        · rw [decide_eq_false h3, hj0]
          obtain ⟨k', rfl⟩ : ∃ k', k = k' + l.length + 1 := ⟨k - l.length - 1, by omega⟩
          have h4 := thr_l1 s (t : Int) l (by omega) l.length 0 k' rfl (Nat.zero_le _)
          rw [List.drop_zero] at h4
          refine h4.trans ?_
          have e : thB l a = l.all okI := by
            unfold thB inB
            rw [decide_eq_true (by omega), decide_eq_true (show 0 ≤ a by omega), decide_eq_true (show a ≤ (l.length : Int) by omega)]
            simp
          rw [e]
          by_cases h5 : l.all okI = true
          · rw [if_pos h5, wr1 (by omega), ih (t + 1) k' (by omega) (by omega) (by omega), h5, Bool.true_and]
          · have h6 : l.all okI = false := by simpa using h5
            rw [if_neg h5, h6, Bool.false_and]
def thrB (s : Syst) : Bool := decide (s.th.length ≤ 8) && (decide (s.at_.length = s.th.length) && (decide (s.su.length = s.th.length) && thsB s))
theorem thr_eq (s : Syst) (hb : Bd s) (k : Nat) (hk : 2600 < k) : downpourref20_threads.f k s.th s.at_ s.su s.lo s.ce s.ch = some (thrB s) := by
  obtain ⟨k, rfl⟩ : ∃ k', k = k' + 1 := ⟨k - 1, by omega⟩
  have hj : ∀ k, downpourref20_threads.j0 (k + 1) true s.th s.at_ s.su s.lo s.ce s.ch = some false := fun k => by simp [downpourref20_threads.j0]
  have hj0 : ∀ k, downpourref20_threads.j0 (k + 1) false s.th s.at_ s.su s.lo s.ce s.ch = downpourref20_threads.l0 k s.th (s.th.length : Int) 0 s.th s.at_ s.su s.lo s.ce s.ch := fun k => by simp [downpourref20_threads.j0]
  unfold downpourref20_threads.f thrB
  by_cases h1 : s.th.length ≤ 8
  · rw [if_neg (by omega), decide_eq_true h1, Bool.true_and]
    by_cases h2 : s.at_.length = s.th.length
    · rw [if_pos (by omega), decide_eq_true h2, Bool.true_and]
      by_cases h3 : s.su.length = s.th.length
      · rw [h3, bne_self_eq_false, hj0, decide_eq_true rfl, Bool.true_and]
        exact thr_l0 s hb h2 s.th.length 0 k rfl (Nat.zero_le _) (by have := hb.n0; omega)
      · have e : ((s.su.length : Int) != (s.th.length : Int)) = true := by simp; omega
        rw [e, hj, decide_eq_false h3, Bool.false_and]
    · rw [if_neg (by omega), hj, decide_eq_false h2, Bool.false_and]
  · rw [if_pos (by omega), hj, decide_eq_false h1, Bool.false_and]
def chaB (s : Syst) : Bool := s.ch.all (fun l => decide (l.length ≤ 2) && l.all smB)
theorem rig_l1 (s : Syst) (hb : Bd s) : ∀ (n i k : Nat), n = s.ch.length - i → i ≤ s.ch.length → n + 200 < k → downpourref20_Right.l1 k s.ch (s.ch.length : Int) (i : Int) = some ((s.ch.drop i).all (fun l => decide (l.length ≤ 2) && l.all smB)) := by
  intro n
  induction n with
  | zero =>
    intro i k hn hi hk
    obtain ⟨k, rfl⟩ : ∃ k', k = k' + 1 := ⟨k - 1, by omega⟩
    unfold downpourref20_Right.l1
    rw [if_neg (by omega), List.drop_eq_nil_of_le (by omega)]
    rfl
  | succ n ih =>
    intro i k hn hi hk
    have h100 := hb.n5
    obtain ⟨k, rfl⟩ : ∃ k', k = k' + 1 := ⟨k - 1, by omega⟩
    obtain ⟨x, hx⟩ : ∃ x, s.ch[i]? = some x := ⟨_, List.getElem?_eq_getElem (by omega)⟩
    have ex : rd_L3 s.ch (i : Int) = x := by unfold rd_L3; rw [Int.toNat_natCast, List.getD_eq_getElem?_getD, hx]; rfl
    have hxl := hb.c x (List.mem_of_getElem? hx)
    unfold downpourref20_Right.l1
    rw [if_pos (by omega), if_pos (by omega), if_pos (by omega), ex, dropG hx, List.all_cons]
    by_cases h1 : (x.length : Int) > 2
    · rw [if_pos h1, decide_eq_false (show ¬ x.length ≤ 2 by omega), Bool.false_and, Bool.false_and]
    · rw [if_neg h1, small_eq x (by omega) k (by omega), Option.bind_some, decide_eq_true (show x.length ≤ 2 by omega), Bool.true_and]
      by_cases h2 : x.all smB = true
      · rw [if_pos h2, wr1 (by omega), ih (i + 1) k (by omega) (by omega) (by omega), h2, Bool.true_and]
      · have h3 : x.all smB = false := by simpa using h2
        rw [if_neg h2, h3, Bool.false_and]
theorem rig_l0 (s : Syst) (hb : Bd s) : ∀ (n i k : Nat), n = s.lo.length - i → i ≤ s.lo.length → n + 400 < k → downpourref20_Right.l0 k s.lo (s.lo.length : Int) (i : Int) s.th s.at_ s.su s.lo s.ce s.ch = some ((s.lo.drop i).all (fun x => inB x (-1) ((s.th.length : Int) - 1)) && chaB s) := by
  intro n
  induction n with
  | zero =>
    intro i k hn hi hk
    obtain ⟨k, rfl⟩ : ∃ k', k = k' + 1 := ⟨k - 1, by omega⟩
    unfold downpourref20_Right.l0
    have h := rig_l1 s hb s.ch.length 0 k rfl (Nat.zero_le _) (by have := hb.n5; omega)
    rw [if_neg (by omega), List.drop_eq_nil_of_le (by omega)]
    exact h
  | succ n ih =>
    intro i k hn hi hk
    have h100 := hb.n3
    obtain ⟨k, rfl⟩ : ∃ k', k = k' + 1 := ⟨k - 1, by omega⟩
    obtain ⟨x, hx⟩ : ∃ x, s.lo[i]? = some x := ⟨_, List.getElem?_eq_getElem (by omega)⟩
    unfold downpourref20_Right.l0
    rw [if_pos (by omega), if_pos (by omega), if_pos (by omega), rdI hx, dropG hx, List.all_cons]
    by_cases h1 : x < -1
    · rw [if_pos h1]
      unfold inB
      rw [decide_eq_false (show ¬ -1 ≤ x by omega)]
      simp
    · rw [if_neg h1]
      by_cases h2 : x ≥ (s.th.length : Int)
      · rw [if_pos h2]
        have : inB x (-1) ((s.th.length : Int) - 1) = false := by unfold inB; rw [decide_eq_false (show ¬ x ≤ (s.th.length : Int) - 1 by omega), Bool.and_false]
        rw [this, Bool.false_and, Bool.false_and]
      · rw [if_neg h2, wr1 (by omega), ih (i + 1) k (by omega) (by omega) (by omega)]
        have : inB x (-1) ((s.th.length : Int) - 1) = true := by unfold inB; rw [decide_eq_true (show -1 ≤ x by omega), decide_eq_true (show x ≤ (s.th.length : Int) - 1 by omega)]; rfl
        rw [this, Bool.true_and]
theorem flat_all (l : List (List Int)) : l.flatten.all smB = l.all (fun x => x.all smB) := by
  induction l with
  | nil => rfl
  | cons x l ih => rw [List.flatten_cons, List.all_append, ih, List.all_cons]
theorem cha_eq (l : List (List Int)) : l.all (fun x => decide (x.length ≤ 2) && x.all smB) = (l.all (fun x => decide (x.length ≤ 2)) && l.all (fun x => x.all smB)) := by
  induction l with
  | nil => rfl
  | cons x l ih =>
    rw [List.all_cons, List.all_cons, List.all_cons, ih]
    cases decide (x.length ≤ 2) <;> cases x.all smB <;> simp
theorem right_all (s : Syst) : rightB s = (thrB s && (decide (s.lo.length = 4) && (decide (s.ce.length = 4) && (decide (s.ch.length = 4) && (s.su.all smB && (s.ce.all smB && (loB s && chaB s))))))) := by
  have h1 : numB s = (s.su.all smB && (s.ce.all smB && s.ch.all (fun x => x.all smB))) := by
    unfold numB
    rw [List.all_append, List.all_append, flat_all, Bool.and_assoc]
  unfold rightB lenB thrB chaB chB
  rw [h1, cha_eq]
  cases decide (s.th.length ≤ 8) <;> cases decide (s.at_.length = s.th.length) <;> cases decide (s.su.length = s.th.length) <;> cases decide (s.lo.length = 4) <;> cases decide (s.ce.length = 4) <;> cases decide (s.ch.length = 4) <;> cases thsB s <;> cases loB s <;> cases s.su.all smB <;> cases s.ce.all smB <;> cases s.ch.all (fun x => decide (x.length ≤ 2)) <;> cases s.ch.all (fun x => x.all smB) <;> rfl
theorem right_f (s : Syst) (hb : Bd s) : downpourref20_Right.f 4000 s.th s.at_ s.su s.lo s.ce s.ch = some (rightB s) := by
  have hj : ∀ k, downpourref20_Right.j0 (k + 1) true s.th s.at_ s.su s.lo s.ce s.ch = some false := fun k => by simp [downpourref20_Right.j0]
  have hj0 : ∀ k, downpourref20_Right.j0 (k + 1) false s.th s.at_ s.su s.lo s.ce s.ch = downpourref20_Right.l0 k s.lo (s.lo.length : Int) 0 s.th s.at_ s.su s.lo s.ce s.ch := fun k => by simp [downpourref20_Right.j0]
  have hjt := hj 3999
  have hjf := hj0 3999
  rw [right_all]
  unfold downpourref20_Right.f
  rw [thr_eq s hb 4000 (by decide), Option.bind_some]
  cases h0 : thrB s with
  | false => rw [if_neg (by decide)]; exact hjt
  | true =>
    rw [if_pos rfl, Bool.true_and]
    by_cases h1 : s.lo.length = 4
    · rw [if_pos (by omega), decide_eq_true h1, Bool.true_and]
      by_cases h2 : s.ce.length = 4
      · rw [if_pos (by omega), decide_eq_true h2, Bool.true_and]
        by_cases h3 : s.ch.length = 4
        · rw [if_pos (by omega), decide_eq_true h3, Bool.true_and, small_eq s.su (by have := hb.n2; omega) 4000 (by have := hb.n2; omega), Option.bind_some]
          cases h4 : s.su.all smB with
          | false => rw [if_neg (by decide)]; exact hjt
          | true =>
            rw [if_pos rfl, Bool.true_and, small_eq s.ce (by omega) 4000 (by omega), Option.bind_some]
            cases h5 : s.ce.all smB with
            | false => exact hjt
            | true =>
              rw [Bool.true_and]
              exact hjf.trans (rig_l0 s hb s.lo.length 0 3999 rfl (Nat.zero_le _) (by omega))
        · rw [if_neg (by omega), decide_eq_false h3, Bool.false_and]; exact hjt
      · rw [if_neg (by omega), decide_eq_false h2, Bool.false_and]; exact hjt
    · rw [if_neg (by omega), decide_eq_false h1, Bool.false_and]; exact hjt
end Go.Proofs.Ythnimpbcfegmjaa.Own
/-
  sched.Like, walked by hand.
-/
namespace Go.Proofs.Ythnimpbcfegmjaa.Own
open Go.RowKit Go.Proofs.YthnimpbcfegmjaaW.PrintWords Go.Proofs.YthnimpbcfegmjaaW.PrintLast Go.Proofs.YthnimpbcfegmjaaW.PrintMore Go.Proofs.Ythnimpbcfegmjaa.P Go.Proofs.Ythnimpbcfegmjaa.Model
set_option linter.unusedVariables false
set_option linter.unusedSimpArgs false

def toQ (i : S44) : Q.S44 := ⟨i.f0, i.f1, i.f2⟩
theorem C_toQ {w : World} {A : Option Addr} {l : List S44} (h : Kd.C k44 w A l.length l) : Kd.C Q.k44 w A (l.map toQ).length (l.map toQ) := by
  refine ⟨rfl, by rw [List.length_map]; exact h.2.1, fun hn => ?_⟩
  obtain ⟨ad, e, f⟩ := h.2.2 (by rwa [List.length_map] at hn)
  refine ⟨ad, e, fun j p hp => ?_⟩
  rw [List.getElem?_map] at hp
  obtain ⟨x, hx, rfl⟩ := Option.map_eq_some_iff.1 hp
  obtain ⟨c, h1, h2, h3⟩ := f j x hx
  exact ⟨c, h1, h2, h3⟩
theorem rdT44Q {l : List S44} {i : Nat} {x : S44} (h : l[i]? = some x) : Q.rd_T44 (l.map toQ) (i : Int) = toQ x := by unfold Q.rd_T44; rw [Int.toNat_natCast, List.getD_eq_getElem?_getD, List.getElem?_map, h]; rfl
theorem api_gen (l m : List S44) (hl : l.length ≤ 1000) (hlm : l.length = m.length) : ∀ (n i k : Nat), n = l.length - i → i ≤ l.length → n < k → Q.api_Instr.l0 k (l.map toQ) (m.map toQ) (l.length : Int) (i : Int) = some (eqT (l.drop i) (m.drop i)) := by
  intro n
  induction n with
  | zero =>
    intro i k hn hi hk
    obtain ⟨k, rfl⟩ : ∃ k', k = k' + 1 := ⟨k - 1, by omega⟩
    unfold Q.api_Instr.l0
    rw [if_neg (by omega), List.drop_eq_nil_of_le (by omega), List.drop_eq_nil_of_le (by omega)]
    simp [eqT]
  | succ n ih =>
    intro i k hn hi hk
    obtain ⟨k, rfl⟩ : ∃ k', k = k' + 1 := ⟨k - 1, by omega⟩
    unfold Q.api_Instr.l0
    obtain ⟨x, hx⟩ : ∃ x, l[i]? = some x := ⟨_, List.getElem?_eq_getElem (by omega)⟩
    obtain ⟨y, hy⟩ : ∃ y, m[i]? = some y := ⟨_, List.getElem?_eq_getElem (by omega)⟩
    rw [if_pos (by omega), if_pos (by omega), if_pos (by rw [List.length_map]; omega), if_pos (by rw [List.length_map]; omega), rdT44Q hx, rdT44Q hy, drop_get hx, drop_get hy]
    show (if (!(x.f0 == y.f0) || (!(x.f1 == y.f1) || (!(x.f2 == y.f2)))) = true then some false else _) = _
    by_cases h : key x = key y
    · rw [if_neg (fun hh => (key_ne x y).1 hh h), wr1 (by omega), ih (i + 1) k (by omega) (by omega) (by omega)]
      simp [eqT, h]
    · rw [if_pos ((key_ne x y).2 h)]
      simp [eqT, h]
theorem api_eq (l m : List S44) (hl : l.length ≤ 1000) (k : Nat) (hk : l.length < k) : Q.api_Instr.f k (l.map toQ) (m.map toQ) = some (eqT l m) := by
  unfold Q.api_Instr.f
  rw [List.length_map, List.length_map]
  by_cases h : l.length = m.length
  · rw [if_pos (by omega)]
    exact api_gen l m hl h l.length 0 k rfl (Nat.zero_le _) hk
  · rw [if_neg (by omega)]
    have : l.map key ≠ m.map key := fun e => h (by have := congrArg List.length e; simpa using this)
    simp [eqT, this]
theorem eqTs_cons {x y : List S44} {l m : List (List S44)} (h : eqT x y = true) : eqTs (x :: l) (y :: m) = eqTs l m := by
  have h2 : x.map key = y.map key := of_decide_eq_true h
  simp [eqTs, h2]
theorem eqTs_ne {x y : List S44} {l m : List (List S44)} (h : eqT x y = false) : eqTs (x :: l) (y :: m) = false := by
  have h2 : ¬ x.map key = y.map key := of_decide_eq_false h
  simp [eqTs, h2]
theorem eqTs_len {l m : List (List S44)} (h : ¬ l.length = m.length) : eqTs l m = false := by
  have : l.map (List.map key) ≠ m.map (List.map key) := fun e => h (by have := congrArg List.length e; simpa using this)
  simp [eqTs, this]
theorem eqCs_cons {x y : List Int} {l m : List (List Int)} (h : eqI x y = true) : eqCs (x :: l) (y :: m) = eqCs l m := by
  have h2 : x = y := of_decide_eq_true h
  simp [eqCs, h2]
theorem eqCs_ne {x y : List Int} {l m : List (List Int)} (h : eqI x y = false) : eqCs (x :: l) (y :: m) = false := by
  have h2 : ¬ x = y := of_decide_eq_false h
  simp [eqCs, h2]
theorem eqCs_len {l m : List (List Int)} (h : ¬ l.length = m.length) : eqCs l m = false := by
  have : l ≠ m := fun e => h (by rw [e])
  simp [eqCs, this]
theorem rdL3 {l : List (List Int)} {i : Nat} {x : List Int} (h : l[i]? = some x) : rd_L3 l (i : Int) = x := by unfold rd_L3; rw [Int.toNat_natCast, List.getD_eq_getElem?_getD, h]; rfl
theorem like1_calls (A B : Option Addr) (c d : Nat) (l m : List Int) (w : World) (hA : CI w A l) (hc : l.length ≤ c) (hB : CI w B m) (hd : m.length ≤ d) (hl : l.length ≤ 1000) : Calls Try.prog 45 #[.slice A l.length c, .slice B m.length d] w (fun e w' => e = .returned (.bool (eqI l m)) ∧ Below w.heap.size w w') := by
  have HQ := Aside0.mk (Q.slices_Equal_int_int.calls 1001 A c l B d m (eqI l m) w hA hc hB hd (equ_eq l m hl 1001 (by omega)))
  clear hA hc hB hd hl
  go_enter Try.func45, Try.ntmps45
  go_wp2_with (go_at_call 46; refine HQ.out.mono ?_; rintro e w2 ⟨rfl, hb⟩; have HB := Aside0.mk hb.below; clear hb)
  go_ret
  exact ⟨rfl, HB.out⟩
theorem like2_calls (A B : Option Addr) (c d : Nat) (l m : List S44) (w : World) (hA : Kd.C k44 w A l.length l) (hc : l.length ≤ c) (hB : Kd.C k44 w B m.length m) (hd : m.length ≤ d) (hl : l.length ≤ 1000) : Calls Try.prog 48 #[.slice A l.length c, .slice B m.length d] w (fun e w' => e = .returned (.bool (eqT l m)) ∧ Below w.heap.size w w') := by
  have hq := Q.api_Instr.calls 1001 A c (l.map toQ) B d (m.map toQ) (eqT l m) w (C_toQ hA) (by rw [List.length_map]; exact hc) (C_toQ hB) (by rw [List.length_map]; exact hd) (api_eq l m hl 1001 (by omega))
  rw [List.length_map, List.length_map] at hq
  have HQ := Aside0.mk hq
  clear hq
  clear hA hc hB hd hl
  go_enter Try.func48, Try.ntmps48
  go_wp2_with (go_at_call 49; refine HQ.out.mono ?_; rintro e w2 ⟨rfl, hb⟩; have HB := Aside0.mk hb.below; clear hb)
  go_ret
  exact ⟨rfl, HB.out⟩
set_option maxRecDepth 100000 in
set_option maxHeartbeats 4000000 in
theorem eqf47_calls (A B : Option Addr) (c d : Nat) (l m : List (List S44)) (w : World) (hA : CT w A l) (hc : l.length ≤ c) (hB : CT w B m) (hd : m.length ≤ d) (hl : l.length ≤ 100) (hm : m.length ≤ 100) (hr : ∀ x, x ∈ l → x.length ≤ 100) : Calls Try.prog 47 #[.slice A l.length c, .slice B m.length d, fn 48] w (fun e w' => e = .returned (.bool (eqTs l m)) ∧ Below w.heap.size w w') := by
  have HA := Aside0.mk hA
  have HBB := Aside0.mk hB
  have HR := Aside0.mk hr
  have HB0 : Aside0 (Below w.heap.size w w) := ⟨Below.refl _ _⟩
  clear hA hB hr
  by_cases hlm : l.length = m.length
  · have dk : ((l.length : Int) != (m.length : Int)) = false := by simp [hlm]
    have dk2 : ((l.length : Int) == (m.length : Int)) = true := by simp [hlm]
    have HLM := Aside0.mk hlm
    clear hlm
    go_enter Try.func47, Try.ntmps47
    go_wp2
    go_loopw [17] (fun v17 W => ∃ k : Nat, k ≤ l.length ∧ v17 = .int .i64 k ∧ Aside0 (eqTs l m = eqTs (l.drop k) (m.drop k)) ∧ Aside0 (Below w.heap.size w W)) (fun v17 _ => l.length - (intOf v17).toNat)
    case atStart => exact ⟨0, Nat.zero_le _, rfl, ⟨rfl⟩, HB0⟩
    case round => as_aux_lemma =>
      clear HB0
      obtain ⟨k, hk, rfl, HE, HB⟩ := hrel
      by_cases hlt : k < l.length
      · have hltm : k < m.length := by have := HLM.out; omega
        obtain ⟨x, hx⟩ : ∃ x, l[k]? = some x := ⟨_, List.getElem?_eq_getElem hlt⟩
        obtain ⟨y, hy⟩ : ∃ y, m[k]? = some y := ⟨_, List.getElem?_eq_getElem hltm⟩
        obtain ⟨ad, A1, e1, rfl, t0, t1, t2⟩ := at_L2 (Kd.C_below HA.out HB.out) (k : Int) (by omega) (by omega)
        obtain ⟨bd, B1, f1, rfl, s0, s1, s2⟩ := at_L2 (Kd.C_below HBB.out HB.out) (k : Int) (by omega) (by omega)
        rw [rdT hx, Int.toNat_natCast] at t0
        rw [rdT hy, Int.toNat_natCast] at s0
        rw [rdT hx] at t1 t2
        rw [rdT hy] at s1 s2
        have hxl := HR.out x (List.mem_of_getElem? hx)
        have HCL := Aside0.mk (like2_calls A1 B1 e1 f1 x y wr t2 t1 s2 s1 (by omega))
        have HDX := Aside0.mk (drop_get hx)
        have HDY := Aside0.mk (drop_get hy)
        clear t1 t2 s1 s2 hx hy
        cases hq : eqT x y with
        | true =>
          have HQ := Aside0.mk hq
          clear hq
          go_wp2_with (go_at_call 48; refine HCL.out.mono ?_; rintro e w2 ⟨rfl, hb⟩; rw [HQ.out]; have HB2 := Aside0.mk (HB.out.trans (hb.mono HB.out.size)); clear hb)
          go_roundw
          case rel => exact ⟨k + 1, hlt, by go_num, ⟨by rw [HE.out, HDX.out, HDY.out]; exact eqTs_cons HQ.out⟩, HB2⟩
          case measure => simp [intOf]; omega
        | false =>
          have HQ := Aside0.mk hq
          clear hq
          go_wp2_with (go_at_call 48; refine HCL.out.mono ?_; rintro e w2 ⟨rfl, hb⟩; rw [HQ.out]; have HB2 := Aside0.mk (HB.out.trans (hb.mono HB.out.size)); clear hb)
          go_ret
          exact ⟨by rw [HE.out, HDX.out, HDY.out, eqTs_ne HQ.out]; rfl, HB2.out⟩
      · obtain rfl : k = l.length := by omega
        go_wp2
        go_ret
        exact ⟨by rw [HE.out, List.drop_eq_nil_of_le (Nat.le_refl _), List.drop_eq_nil_of_le (by have := HLM.out; omega)]; rfl, HB.out⟩
  · have dk : ((l.length : Int) != (m.length : Int)) = true := by simp; omega
    have dk2 : ((l.length : Int) == (m.length : Int)) = false := by simp; omega
    have hf : eqTs l m = false := eqTs_len hlm
    rw [hf]
    clear hf hlm
    go_enter Try.func47, Try.ntmps47
    go_wp2
    go_ret
    exact ⟨rfl, HB0.out⟩
set_option maxRecDepth 100000 in
set_option maxHeartbeats 4000000 in
theorem eqf50_calls (A B : Option Addr) (c d : Nat) (l m : List (List Int)) (w : World) (hA : CR w A l) (hc : l.length ≤ c) (hB : CR w B m) (hd : m.length ≤ d) (hl : l.length ≤ 100) (hm : m.length ≤ 100) (hr : ∀ x, x ∈ l → x.length ≤ 100) : Calls Try.prog 50 #[.slice A l.length c, .slice B m.length d, fn 45] w (fun e w' => e = .returned (.bool (eqCs l m)) ∧ Below w.heap.size w w') := by
  have HA := Aside0.mk hA
  have HBB := Aside0.mk hB
  have HR := Aside0.mk hr
  have HB0 : Aside0 (Below w.heap.size w w) := ⟨Below.refl _ _⟩
  clear hA hB hr
  by_cases hlm : l.length = m.length
  · have dk : ((l.length : Int) != (m.length : Int)) = false := by simp [hlm]
    have dk2 : ((l.length : Int) == (m.length : Int)) = true := by simp [hlm]
    have HLM := Aside0.mk hlm
    clear hlm
    go_enter Try.func50, Try.ntmps50
    go_wp2
    go_loopw [17] (fun v17 W => ∃ k : Nat, k ≤ l.length ∧ v17 = .int .i64 k ∧ Aside0 (eqCs l m = eqCs (l.drop k) (m.drop k)) ∧ Aside0 (Below w.heap.size w W)) (fun v17 _ => l.length - (intOf v17).toNat)
    case atStart => exact ⟨0, Nat.zero_le _, rfl, ⟨rfl⟩, HB0⟩
    case round => as_aux_lemma =>
      clear HB0
      obtain ⟨k, hk, rfl, HE, HB⟩ := hrel
      by_cases hlt : k < l.length
      · have hltm : k < m.length := by have := HLM.out; omega
        obtain ⟨x, hx⟩ : ∃ x, l[k]? = some x := ⟨_, List.getElem?_eq_getElem hlt⟩
        obtain ⟨y, hy⟩ : ∃ y, m[k]? = some y := ⟨_, List.getElem?_eq_getElem hltm⟩
        obtain ⟨ad, A1, e1, rfl, t0, t1, t2⟩ := at_L3 (Kd.C_below HA.out HB.out) (k : Int) (by omega) (by omega)
        obtain ⟨bd, B1, f1, rfl, s0, s1, s2⟩ := at_L3 (Kd.C_below HBB.out HB.out) (k : Int) (by omega) (by omega)
        rw [rdL3 hx, Int.toNat_natCast] at t0
        rw [rdL3 hy, Int.toNat_natCast] at s0
        rw [rdL3 hx] at t1 t2
        rw [rdL3 hy] at s1 s2
        have hxl := HR.out x (List.mem_of_getElem? hx)
        have HCL := Aside0.mk (like1_calls A1 B1 e1 f1 x y wr t2 t1 s2 s1 (by omega))
        have HDX := Aside0.mk (drop_get hx)
        have HDY := Aside0.mk (drop_get hy)
        clear t1 t2 s1 s2 hx hy
        cases hq : eqI x y with
        | true =>
          have HQ := Aside0.mk hq
          clear hq
          go_wp2_with (go_at_call 45; refine HCL.out.mono ?_; rintro e w2 ⟨rfl, hb⟩; rw [HQ.out]; have HB2 := Aside0.mk (HB.out.trans (hb.mono HB.out.size)); clear hb)
          go_roundw
          case rel => exact ⟨k + 1, hlt, by go_num, ⟨by rw [HE.out, HDX.out, HDY.out]; exact eqCs_cons HQ.out⟩, HB2⟩
          case measure => simp [intOf]; omega
        | false =>
          have HQ := Aside0.mk hq
          clear hq
          go_wp2_with (go_at_call 45; refine HCL.out.mono ?_; rintro e w2 ⟨rfl, hb⟩; rw [HQ.out]; have HB2 := Aside0.mk (HB.out.trans (hb.mono HB.out.size)); clear hb)
          go_ret
          exact ⟨by rw [HE.out, HDX.out, HDY.out, eqCs_ne HQ.out]; rfl, HB2.out⟩
      · obtain rfl : k = l.length := by omega
        go_wp2
        go_ret
        exact ⟨by rw [HE.out, List.drop_eq_nil_of_le (Nat.le_refl _), List.drop_eq_nil_of_le (by have := HLM.out; omega)]; rfl, HB.out⟩
  · have dk : ((l.length : Int) != (m.length : Int)) = true := by simp; omega
    have dk2 : ((l.length : Int) == (m.length : Int)) = false := by simp; omega
    have hf : eqCs l m = false := eqCs_len hlm
    rw [hf]
    clear hf hlm
    go_enter Try.func50, Try.ntmps50
    go_wp2
    go_ret
    exact ⟨rfl, HB0.out⟩
def likeB (s r : Syst) : Bool := eqTs s.th r.th && (eqI s.at_ r.at_ && (eqI s.su r.su && (eqI s.lo r.lo && (eqI s.ce r.ce && eqCs s.ch r.ch))))
theorem likeB_same (s r : Syst) : likeB s r = sameB s r := by
  unfold likeB sameB restB
  cases eqTs s.th r.th <;> cases eqI s.at_ r.at_ <;> cases eqI s.su r.su <;> cases eqI s.lo r.lo <;> cases eqI s.ce r.ce <;> cases eqCs s.ch r.ch <;> rfl
set_option maxRecDepth 100000 in
set_option maxHeartbeats 8000000 in
theorem like_calls (s r : Syst) (p q : Ad) (w : World) (hC : SysC w s p) (hD : SysC w r q) (hb1 : Bd s) (hb2 : Bd r) : Calls Try.prog 21 #[.agg (sysA s p), .agg (sysA r q)] w (fun e w' => e = .returned (.bool (likeB s r)) ∧ Below w.heap.size w w') := by
  have hB1 : Below w.heap.size w (w.alloc (.cells (sysA s p) 26)) := (Below.refl _ _).alloc (Nat.le_refl _) _
  have hB2 := hB1.alloc hB1.size (.cells (sysA r q) 26)
  have HB := Aside0.mk hB2
  have HC := Aside0.mk hC
  have HD := Aside0.mk hD
  have HB1 := Aside0.mk hb1
  have HB2 := Aside0.mk hb2
  have HG : Aside0 (((w.alloc (.cells (sysA s p) 26)).alloc (.cells (sysA r q) 26)).heap[w.heap.size]? = some (.cells (sysA s p) 26 (0, 0))) := ⟨blk_alloc (blk_new w _) _⟩
  have HZ : Aside0 (((w.alloc (.cells (sysA s p) 26)).alloc (.cells (sysA r q) 26)).heap[w.heap.size + 1]? = some (.cells (sysA r q) 26 (0, 0))) := ⟨by
    have h1 := blk_new (w.alloc (.cells (sysA s p) 26)) (.cells (sysA r q) 26)
    rw [alloc_size] at h1
    exact h1⟩
  obtain ⟨a0, c0, a1, c1, a2, c2, a3, c3, a4, c4, a5, c5⟩ := p
  obtain ⟨b0, d0, b1, d1, b2, d2, b3, d3, b4, d4, b5, d5⟩ := q
  have HQ : Aside0 (likeB s r = (eqTs s.th r.th && (eqI s.at_ r.at_ && (eqI s.su r.su && (eqI s.lo r.lo && (eqI s.ce r.ce && eqCs s.ch r.ch)))))) := ⟨rfl⟩
  rw [HQ.out]
  clear HQ hC hD hb1 hb2 hB1 hB2
  unfold sysA at *
  dsimp only at HG HZ HB ⊢
  cases h0 : eqTs s.th r.th with
  | false =>
    have H0 := Aside0.mk h0
    clear h0
    as_aux_lemma =>
    obtain ⟨q0, q1, q2, q3, q4, q5⟩ := six_cells HG.out
    obtain ⟨z0, z1, z2, z3, z4, z5⟩ := six_cells HZ.out
    go_enter Try.func21, Try.ntmps21
    go_wp2_with (first | (go_at_call 47; refine (eqf47_calls a0 b0 c0 d0 s.th r.th _ (Kd.C_below HC.out.r0 HB.out) HC.out.h0 (Kd.C_below HD.out.r0 HB.out) HD.out.h0 HB1.out.n0 HB2.out.n0 HB1.out.t).mono ?_; rintro e w2 ⟨rfl, hb⟩; rw [H0.out]; replace HB := Aside0.mk (HB.out.trans (hb.mono HB.out.size)); replace HG := Aside0.mk (blk_below HG.out hb); replace HZ := Aside0.mk (blk_below HZ.out hb); clear hb q0 q1 q2 q3 q4 q5 z0 z1 z2 z3 z4 z5; obtain ⟨q0, q1, q2, q3, q4, q5⟩ := six_cells HG.out; obtain ⟨z0, z1, z2, z3, z4, z5⟩ := six_cells HZ.out))
    go_ret
    exact ⟨rfl, HB.out⟩
  | true =>
    have H0 := Aside0.mk h0
    clear h0
    cases h1 : eqI s.at_ r.at_ with
    | false =>
      have H1 := Aside0.mk h1
      clear h1
      as_aux_lemma =>
      obtain ⟨q0, q1, q2, q3, q4, q5⟩ := six_cells HG.out
      obtain ⟨z0, z1, z2, z3, z4, z5⟩ := six_cells HZ.out
      go_enter Try.func21, Try.ntmps21
      go_wp2_with (first | (go_at_call 47; refine (eqf47_calls a0 b0 c0 d0 s.th r.th _ (Kd.C_below HC.out.r0 HB.out) HC.out.h0 (Kd.C_below HD.out.r0 HB.out) HD.out.h0 HB1.out.n0 HB2.out.n0 HB1.out.t).mono ?_; rintro e w2 ⟨rfl, hb⟩; rw [H0.out]; replace HB := Aside0.mk (HB.out.trans (hb.mono HB.out.size)); replace HG := Aside0.mk (blk_below HG.out hb); replace HZ := Aside0.mk (blk_below HZ.out hb); clear hb q0 q1 q2 q3 q4 q5 z0 z1 z2 z3 z4 z5; obtain ⟨q0, q1, q2, q3, q4, q5⟩ := six_cells HG.out; obtain ⟨z0, z1, z2, z3, z4, z5⟩ := six_cells HZ.out) | (go_at_call 45; refine (like1_calls a1 b1 c1 d1 s.at_ r.at_ _ (Kd.C_below HC.out.r1 HB.out) HC.out.h1 (Kd.C_below HD.out.r1 HB.out) HD.out.h1 (by have := HB1.out.n1; omega)).mono ?_; rintro e w2 ⟨rfl, hb⟩; rw [H1.out]; replace HB := Aside0.mk (HB.out.trans (hb.mono HB.out.size)); replace HG := Aside0.mk (blk_below HG.out hb); replace HZ := Aside0.mk (blk_below HZ.out hb); clear hb q0 q1 q2 q3 q4 q5 z0 z1 z2 z3 z4 z5; obtain ⟨q0, q1, q2, q3, q4, q5⟩ := six_cells HG.out; obtain ⟨z0, z1, z2, z3, z4, z5⟩ := six_cells HZ.out))
      go_ret
      exact ⟨rfl, HB.out⟩
    | true =>
      have H1 := Aside0.mk h1
      clear h1
      cases h2 : eqI s.su r.su with
      | false =>
        have H2 := Aside0.mk h2
        clear h2
        as_aux_lemma =>
        obtain ⟨q0, q1, q2, q3, q4, q5⟩ := six_cells HG.out
        obtain ⟨z0, z1, z2, z3, z4, z5⟩ := six_cells HZ.out
        go_enter Try.func21, Try.ntmps21
        go_wp2_with (first | (go_at_call 47; refine (eqf47_calls a0 b0 c0 d0 s.th r.th _ (Kd.C_below HC.out.r0 HB.out) HC.out.h0 (Kd.C_below HD.out.r0 HB.out) HD.out.h0 HB1.out.n0 HB2.out.n0 HB1.out.t).mono ?_; rintro e w2 ⟨rfl, hb⟩; rw [H0.out]; replace HB := Aside0.mk (HB.out.trans (hb.mono HB.out.size)); replace HG := Aside0.mk (blk_below HG.out hb); replace HZ := Aside0.mk (blk_below HZ.out hb); clear hb q0 q1 q2 q3 q4 q5 z0 z1 z2 z3 z4 z5; obtain ⟨q0, q1, q2, q3, q4, q5⟩ := six_cells HG.out; obtain ⟨z0, z1, z2, z3, z4, z5⟩ := six_cells HZ.out) | (go_at_call 45; refine (like1_calls a1 b1 c1 d1 s.at_ r.at_ _ (Kd.C_below HC.out.r1 HB.out) HC.out.h1 (Kd.C_below HD.out.r1 HB.out) HD.out.h1 (by have := HB1.out.n1; omega)).mono ?_; rintro e w2 ⟨rfl, hb⟩; rw [H1.out]; replace HB := Aside0.mk (HB.out.trans (hb.mono HB.out.size)); replace HG := Aside0.mk (blk_below HG.out hb); replace HZ := Aside0.mk (blk_below HZ.out hb); clear hb q0 q1 q2 q3 q4 q5 z0 z1 z2 z3 z4 z5; obtain ⟨q0, q1, q2, q3, q4, q5⟩ := six_cells HG.out; obtain ⟨z0, z1, z2, z3, z4, z5⟩ := six_cells HZ.out) | (go_at_call 45; refine (like1_calls a2 b2 c2 d2 s.su r.su _ (Kd.C_below HC.out.r2 HB.out) HC.out.h2 (Kd.C_below HD.out.r2 HB.out) HD.out.h2 (by have := HB1.out.n2; omega)).mono ?_; rintro e w2 ⟨rfl, hb⟩; rw [H2.out]; replace HB := Aside0.mk (HB.out.trans (hb.mono HB.out.size)); replace HG := Aside0.mk (blk_below HG.out hb); replace HZ := Aside0.mk (blk_below HZ.out hb); clear hb q0 q1 q2 q3 q4 q5 z0 z1 z2 z3 z4 z5; obtain ⟨q0, q1, q2, q3, q4, q5⟩ := six_cells HG.out; obtain ⟨z0, z1, z2, z3, z4, z5⟩ := six_cells HZ.out))
        go_ret
        exact ⟨rfl, HB.out⟩
      | true =>
        have H2 := Aside0.mk h2
        clear h2
        cases h3 : eqI s.lo r.lo with
        | false =>
          have H3 := Aside0.mk h3
          clear h3
          as_aux_lemma =>
          obtain ⟨q0, q1, q2, q3, q4, q5⟩ := six_cells HG.out
          obtain ⟨z0, z1, z2, z3, z4, z5⟩ := six_cells HZ.out
          go_enter Try.func21, Try.ntmps21
          go_wp2_with (first | (go_at_call 47; refine (eqf47_calls a0 b0 c0 d0 s.th r.th _ (Kd.C_below HC.out.r0 HB.out) HC.out.h0 (Kd.C_below HD.out.r0 HB.out) HD.out.h0 HB1.out.n0 HB2.out.n0 HB1.out.t).mono ?_; rintro e w2 ⟨rfl, hb⟩; rw [H0.out]; replace HB := Aside0.mk (HB.out.trans (hb.mono HB.out.size)); replace HG := Aside0.mk (blk_below HG.out hb); replace HZ := Aside0.mk (blk_below HZ.out hb); clear hb q0 q1 q2 q3 q4 q5 z0 z1 z2 z3 z4 z5; obtain ⟨q0, q1, q2, q3, q4, q5⟩ := six_cells HG.out; obtain ⟨z0, z1, z2, z3, z4, z5⟩ := six_cells HZ.out) | (go_at_call 45; refine (like1_calls a1 b1 c1 d1 s.at_ r.at_ _ (Kd.C_below HC.out.r1 HB.out) HC.out.h1 (Kd.C_below HD.out.r1 HB.out) HD.out.h1 (by have := HB1.out.n1; omega)).mono ?_; rintro e w2 ⟨rfl, hb⟩; rw [H1.out]; replace HB := Aside0.mk (HB.out.trans (hb.mono HB.out.size)); replace HG := Aside0.mk (blk_below HG.out hb); replace HZ := Aside0.mk (blk_below HZ.out hb); clear hb q0 q1 q2 q3 q4 q5 z0 z1 z2 z3 z4 z5; obtain ⟨q0, q1, q2, q3, q4, q5⟩ := six_cells HG.out; obtain ⟨z0, z1, z2, z3, z4, z5⟩ := six_cells HZ.out) | (go_at_call 45; refine (like1_calls a2 b2 c2 d2 s.su r.su _ (Kd.C_below HC.out.r2 HB.out) HC.out.h2 (Kd.C_below HD.out.r2 HB.out) HD.out.h2 (by have := HB1.out.n2; omega)).mono ?_; rintro e w2 ⟨rfl, hb⟩; rw [H2.out]; replace HB := Aside0.mk (HB.out.trans (hb.mono HB.out.size)); replace HG := Aside0.mk (blk_below HG.out hb); replace HZ := Aside0.mk (blk_below HZ.out hb); clear hb q0 q1 q2 q3 q4 q5 z0 z1 z2 z3 z4 z5; obtain ⟨q0, q1, q2, q3, q4, q5⟩ := six_cells HG.out; obtain ⟨z0, z1, z2, z3, z4, z5⟩ := six_cells HZ.out) | (go_at_call 45; refine (like1_calls a3 b3 c3 d3 s.lo r.lo _ (Kd.C_below HC.out.r3 HB.out) HC.out.h3 (Kd.C_below HD.out.r3 HB.out) HD.out.h3 (by have := HB1.out.n3; omega)).mono ?_; rintro e w2 ⟨rfl, hb⟩; rw [H3.out]; replace HB := Aside0.mk (HB.out.trans (hb.mono HB.out.size)); replace HG := Aside0.mk (blk_below HG.out hb); replace HZ := Aside0.mk (blk_below HZ.out hb); clear hb q0 q1 q2 q3 q4 q5 z0 z1 z2 z3 z4 z5; obtain ⟨q0, q1, q2, q3, q4, q5⟩ := six_cells HG.out; obtain ⟨z0, z1, z2, z3, z4, z5⟩ := six_cells HZ.out))
          go_ret
          exact ⟨rfl, HB.out⟩
        | true =>
          have H3 := Aside0.mk h3
          clear h3
          cases h4 : eqI s.ce r.ce with
          | false =>
            have H4 := Aside0.mk h4
            clear h4
            as_aux_lemma =>
            obtain ⟨q0, q1, q2, q3, q4, q5⟩ := six_cells HG.out
            obtain ⟨z0, z1, z2, z3, z4, z5⟩ := six_cells HZ.out
            go_enter Try.func21, Try.ntmps21
            go_wp2_with (first | (go_at_call 47; refine (eqf47_calls a0 b0 c0 d0 s.th r.th _ (Kd.C_below HC.out.r0 HB.out) HC.out.h0 (Kd.C_below HD.out.r0 HB.out) HD.out.h0 HB1.out.n0 HB2.out.n0 HB1.out.t).mono ?_; rintro e w2 ⟨rfl, hb⟩; rw [H0.out]; replace HB := Aside0.mk (HB.out.trans (hb.mono HB.out.size)); replace HG := Aside0.mk (blk_below HG.out hb); replace HZ := Aside0.mk (blk_below HZ.out hb); clear hb q0 q1 q2 q3 q4 q5 z0 z1 z2 z3 z4 z5; obtain ⟨q0, q1, q2, q3, q4, q5⟩ := six_cells HG.out; obtain ⟨z0, z1, z2, z3, z4, z5⟩ := six_cells HZ.out) | (go_at_call 45; refine (like1_calls a1 b1 c1 d1 s.at_ r.at_ _ (Kd.C_below HC.out.r1 HB.out) HC.out.h1 (Kd.C_below HD.out.r1 HB.out) HD.out.h1 (by have := HB1.out.n1; omega)).mono ?_; rintro e w2 ⟨rfl, hb⟩; rw [H1.out]; replace HB := Aside0.mk (HB.out.trans (hb.mono HB.out.size)); replace HG := Aside0.mk (blk_below HG.out hb); replace HZ := Aside0.mk (blk_below HZ.out hb); clear hb q0 q1 q2 q3 q4 q5 z0 z1 z2 z3 z4 z5; obtain ⟨q0, q1, q2, q3, q4, q5⟩ := six_cells HG.out; obtain ⟨z0, z1, z2, z3, z4, z5⟩ := six_cells HZ.out) | (go_at_call 45; refine (like1_calls a2 b2 c2 d2 s.su r.su _ (Kd.C_below HC.out.r2 HB.out) HC.out.h2 (Kd.C_below HD.out.r2 HB.out) HD.out.h2 (by have := HB1.out.n2; omega)).mono ?_; rintro e w2 ⟨rfl, hb⟩; rw [H2.out]; replace HB := Aside0.mk (HB.out.trans (hb.mono HB.out.size)); replace HG := Aside0.mk (blk_below HG.out hb); replace HZ := Aside0.mk (blk_below HZ.out hb); clear hb q0 q1 q2 q3 q4 q5 z0 z1 z2 z3 z4 z5; obtain ⟨q0, q1, q2, q3, q4, q5⟩ := six_cells HG.out; obtain ⟨z0, z1, z2, z3, z4, z5⟩ := six_cells HZ.out) | (go_at_call 45; refine (like1_calls a3 b3 c3 d3 s.lo r.lo _ (Kd.C_below HC.out.r3 HB.out) HC.out.h3 (Kd.C_below HD.out.r3 HB.out) HD.out.h3 (by have := HB1.out.n3; omega)).mono ?_; rintro e w2 ⟨rfl, hb⟩; rw [H3.out]; replace HB := Aside0.mk (HB.out.trans (hb.mono HB.out.size)); replace HG := Aside0.mk (blk_below HG.out hb); replace HZ := Aside0.mk (blk_below HZ.out hb); clear hb q0 q1 q2 q3 q4 q5 z0 z1 z2 z3 z4 z5; obtain ⟨q0, q1, q2, q3, q4, q5⟩ := six_cells HG.out; obtain ⟨z0, z1, z2, z3, z4, z5⟩ := six_cells HZ.out) | (go_at_call 45; refine (like1_calls a4 b4 c4 d4 s.ce r.ce _ (Kd.C_below HC.out.r4 HB.out) HC.out.h4 (Kd.C_below HD.out.r4 HB.out) HD.out.h4 (by have := HB1.out.n4; omega)).mono ?_; rintro e w2 ⟨rfl, hb⟩; rw [H4.out]; replace HB := Aside0.mk (HB.out.trans (hb.mono HB.out.size)); replace HG := Aside0.mk (blk_below HG.out hb); replace HZ := Aside0.mk (blk_below HZ.out hb); clear hb q0 q1 q2 q3 q4 q5 z0 z1 z2 z3 z4 z5; obtain ⟨q0, q1, q2, q3, q4, q5⟩ := six_cells HG.out; obtain ⟨z0, z1, z2, z3, z4, z5⟩ := six_cells HZ.out))
            go_ret
            exact ⟨rfl, HB.out⟩
          | true =>
            have H4 := Aside0.mk h4
            clear h4
            cases h5 : eqCs s.ch r.ch with
            | false =>
              have H5 := Aside0.mk h5
              clear h5
              as_aux_lemma =>
              obtain ⟨q0, q1, q2, q3, q4, q5⟩ := six_cells HG.out
              obtain ⟨z0, z1, z2, z3, z4, z5⟩ := six_cells HZ.out
              go_enter Try.func21, Try.ntmps21
              go_wp2_with (first | (go_at_call 47; refine (eqf47_calls a0 b0 c0 d0 s.th r.th _ (Kd.C_below HC.out.r0 HB.out) HC.out.h0 (Kd.C_below HD.out.r0 HB.out) HD.out.h0 HB1.out.n0 HB2.out.n0 HB1.out.t).mono ?_; rintro e w2 ⟨rfl, hb⟩; rw [H0.out]; replace HB := Aside0.mk (HB.out.trans (hb.mono HB.out.size)); replace HG := Aside0.mk (blk_below HG.out hb); replace HZ := Aside0.mk (blk_below HZ.out hb); clear hb q0 q1 q2 q3 q4 q5 z0 z1 z2 z3 z4 z5; obtain ⟨q0, q1, q2, q3, q4, q5⟩ := six_cells HG.out; obtain ⟨z0, z1, z2, z3, z4, z5⟩ := six_cells HZ.out) | (go_at_call 45; refine (like1_calls a1 b1 c1 d1 s.at_ r.at_ _ (Kd.C_below HC.out.r1 HB.out) HC.out.h1 (Kd.C_below HD.out.r1 HB.out) HD.out.h1 (by have := HB1.out.n1; omega)).mono ?_; rintro e w2 ⟨rfl, hb⟩; rw [H1.out]; replace HB := Aside0.mk (HB.out.trans (hb.mono HB.out.size)); replace HG := Aside0.mk (blk_below HG.out hb); replace HZ := Aside0.mk (blk_below HZ.out hb); clear hb q0 q1 q2 q3 q4 q5 z0 z1 z2 z3 z4 z5; obtain ⟨q0, q1, q2, q3, q4, q5⟩ := six_cells HG.out; obtain ⟨z0, z1, z2, z3, z4, z5⟩ := six_cells HZ.out) | (go_at_call 45; refine (like1_calls a2 b2 c2 d2 s.su r.su _ (Kd.C_below HC.out.r2 HB.out) HC.out.h2 (Kd.C_below HD.out.r2 HB.out) HD.out.h2 (by have := HB1.out.n2; omega)).mono ?_; rintro e w2 ⟨rfl, hb⟩; rw [H2.out]; replace HB := Aside0.mk (HB.out.trans (hb.mono HB.out.size)); replace HG := Aside0.mk (blk_below HG.out hb); replace HZ := Aside0.mk (blk_below HZ.out hb); clear hb q0 q1 q2 q3 q4 q5 z0 z1 z2 z3 z4 z5; obtain ⟨q0, q1, q2, q3, q4, q5⟩ := six_cells HG.out; obtain ⟨z0, z1, z2, z3, z4, z5⟩ := six_cells HZ.out) | (go_at_call 45; refine (like1_calls a3 b3 c3 d3 s.lo r.lo _ (Kd.C_below HC.out.r3 HB.out) HC.out.h3 (Kd.C_below HD.out.r3 HB.out) HD.out.h3 (by have := HB1.out.n3; omega)).mono ?_; rintro e w2 ⟨rfl, hb⟩; rw [H3.out]; replace HB := Aside0.mk (HB.out.trans (hb.mono HB.out.size)); replace HG := Aside0.mk (blk_below HG.out hb); replace HZ := Aside0.mk (blk_below HZ.out hb); clear hb q0 q1 q2 q3 q4 q5 z0 z1 z2 z3 z4 z5; obtain ⟨q0, q1, q2, q3, q4, q5⟩ := six_cells HG.out; obtain ⟨z0, z1, z2, z3, z4, z5⟩ := six_cells HZ.out) | (go_at_call 45; refine (like1_calls a4 b4 c4 d4 s.ce r.ce _ (Kd.C_below HC.out.r4 HB.out) HC.out.h4 (Kd.C_below HD.out.r4 HB.out) HD.out.h4 (by have := HB1.out.n4; omega)).mono ?_; rintro e w2 ⟨rfl, hb⟩; rw [H4.out]; replace HB := Aside0.mk (HB.out.trans (hb.mono HB.out.size)); replace HG := Aside0.mk (blk_below HG.out hb); replace HZ := Aside0.mk (blk_below HZ.out hb); clear hb q0 q1 q2 q3 q4 q5 z0 z1 z2 z3 z4 z5; obtain ⟨q0, q1, q2, q3, q4, q5⟩ := six_cells HG.out; obtain ⟨z0, z1, z2, z3, z4, z5⟩ := six_cells HZ.out) | (go_at_call 50; refine (eqf50_calls a5 b5 c5 d5 s.ch r.ch _ (Kd.C_below HC.out.r5 HB.out) HC.out.h5 (Kd.C_below HD.out.r5 HB.out) HD.out.h5 HB1.out.n5 HB2.out.n5 HB1.out.c).mono ?_; rintro e w2 ⟨rfl, hb⟩; rw [H5.out]; replace HB := Aside0.mk (HB.out.trans (hb.mono HB.out.size)); replace HG := Aside0.mk (blk_below HG.out hb); replace HZ := Aside0.mk (blk_below HZ.out hb); clear hb q0 q1 q2 q3 q4 q5 z0 z1 z2 z3 z4 z5; obtain ⟨q0, q1, q2, q3, q4, q5⟩ := six_cells HG.out; obtain ⟨z0, z1, z2, z3, z4, z5⟩ := six_cells HZ.out))
              go_ret
              exact ⟨rfl, HB.out⟩
            | true =>
              have H5 := Aside0.mk h5
              clear h5
              as_aux_lemma =>
              obtain ⟨q0, q1, q2, q3, q4, q5⟩ := six_cells HG.out
              obtain ⟨z0, z1, z2, z3, z4, z5⟩ := six_cells HZ.out
              go_enter Try.func21, Try.ntmps21
              go_wp2_with (first | (go_at_call 47; refine (eqf47_calls a0 b0 c0 d0 s.th r.th _ (Kd.C_below HC.out.r0 HB.out) HC.out.h0 (Kd.C_below HD.out.r0 HB.out) HD.out.h0 HB1.out.n0 HB2.out.n0 HB1.out.t).mono ?_; rintro e w2 ⟨rfl, hb⟩; rw [H0.out]; replace HB := Aside0.mk (HB.out.trans (hb.mono HB.out.size)); replace HG := Aside0.mk (blk_below HG.out hb); replace HZ := Aside0.mk (blk_below HZ.out hb); clear hb q0 q1 q2 q3 q4 q5 z0 z1 z2 z3 z4 z5; obtain ⟨q0, q1, q2, q3, q4, q5⟩ := six_cells HG.out; obtain ⟨z0, z1, z2, z3, z4, z5⟩ := six_cells HZ.out) | (go_at_call 45; refine (like1_calls a1 b1 c1 d1 s.at_ r.at_ _ (Kd.C_below HC.out.r1 HB.out) HC.out.h1 (Kd.C_below HD.out.r1 HB.out) HD.out.h1 (by have := HB1.out.n1; omega)).mono ?_; rintro e w2 ⟨rfl, hb⟩; rw [H1.out]; replace HB := Aside0.mk (HB.out.trans (hb.mono HB.out.size)); replace HG := Aside0.mk (blk_below HG.out hb); replace HZ := Aside0.mk (blk_below HZ.out hb); clear hb q0 q1 q2 q3 q4 q5 z0 z1 z2 z3 z4 z5; obtain ⟨q0, q1, q2, q3, q4, q5⟩ := six_cells HG.out; obtain ⟨z0, z1, z2, z3, z4, z5⟩ := six_cells HZ.out) | (go_at_call 45; refine (like1_calls a2 b2 c2 d2 s.su r.su _ (Kd.C_below HC.out.r2 HB.out) HC.out.h2 (Kd.C_below HD.out.r2 HB.out) HD.out.h2 (by have := HB1.out.n2; omega)).mono ?_; rintro e w2 ⟨rfl, hb⟩; rw [H2.out]; replace HB := Aside0.mk (HB.out.trans (hb.mono HB.out.size)); replace HG := Aside0.mk (blk_below HG.out hb); replace HZ := Aside0.mk (blk_below HZ.out hb); clear hb q0 q1 q2 q3 q4 q5 z0 z1 z2 z3 z4 z5; obtain ⟨q0, q1, q2, q3, q4, q5⟩ := six_cells HG.out; obtain ⟨z0, z1, z2, z3, z4, z5⟩ := six_cells HZ.out) | (go_at_call 45; refine (like1_calls a3 b3 c3 d3 s.lo r.lo _ (Kd.C_below HC.out.r3 HB.out) HC.out.h3 (Kd.C_below HD.out.r3 HB.out) HD.out.h3 (by have := HB1.out.n3; omega)).mono ?_; rintro e w2 ⟨rfl, hb⟩; rw [H3.out]; replace HB := Aside0.mk (HB.out.trans (hb.mono HB.out.size)); replace HG := Aside0.mk (blk_below HG.out hb); replace HZ := Aside0.mk (blk_below HZ.out hb); clear hb q0 q1 q2 q3 q4 q5 z0 z1 z2 z3 z4 z5; obtain ⟨q0, q1, q2, q3, q4, q5⟩ := six_cells HG.out; obtain ⟨z0, z1, z2, z3, z4, z5⟩ := six_cells HZ.out) | (go_at_call 45; refine (like1_calls a4 b4 c4 d4 s.ce r.ce _ (Kd.C_below HC.out.r4 HB.out) HC.out.h4 (Kd.C_below HD.out.r4 HB.out) HD.out.h4 (by have := HB1.out.n4; omega)).mono ?_; rintro e w2 ⟨rfl, hb⟩; rw [H4.out]; replace HB := Aside0.mk (HB.out.trans (hb.mono HB.out.size)); replace HG := Aside0.mk (blk_below HG.out hb); replace HZ := Aside0.mk (blk_below HZ.out hb); clear hb q0 q1 q2 q3 q4 q5 z0 z1 z2 z3 z4 z5; obtain ⟨q0, q1, q2, q3, q4, q5⟩ := six_cells HG.out; obtain ⟨z0, z1, z2, z3, z4, z5⟩ := six_cells HZ.out) | (go_at_call 50; refine (eqf50_calls a5 b5 c5 d5 s.ch r.ch _ (Kd.C_below HC.out.r5 HB.out) HC.out.h5 (Kd.C_below HD.out.r5 HB.out) HD.out.h5 HB1.out.n5 HB2.out.n5 HB1.out.c).mono ?_; rintro e w2 ⟨rfl, hb⟩; rw [H5.out]; replace HB := Aside0.mk (HB.out.trans (hb.mono HB.out.size)); replace HG := Aside0.mk (blk_below HG.out hb); replace HZ := Aside0.mk (blk_below HZ.out hb); clear hb q0 q1 q2 q3 q4 q5 z0 z1 z2 z3 z4 z5; obtain ⟨q0, q1, q2, q3, q4, q5⟩ := six_cells HG.out; obtain ⟨z0, z1, z2, z3, z4, z5⟩ := six_cells HZ.out))
              go_ret
              exact ⟨rfl, HB.out⟩
end Go.Proofs.Ythnimpbcfegmjaa.Own
/-
  The reference's New: what it answers is the model's system ahead of its first step.
-/
namespace Go.Proofs.Ythnimpbcfegmjaa.Own
open Go.RowKit Go.Proofs.YthnimpbcfegmjaaW.PrintWords Go.Proofs.YthnimpbcfegmjaaW.PrintLast Go.Proofs.YthnimpbcfegmjaaW.PrintMore Go.Proofs.Ythnimpbcfegmjaa.P Go.Proofs.Ythnimpbcfegmjaa.Model
set_option linter.unusedVariables false
set_option linter.unusedSimpArgs false

theorem zeros_loop (n : Nat) (hn : n ≤ 1000) : ∀ (m i k : Nat), m = n - i → i ≤ n → m < k → downpourref20_zeros.l0 k (n : Int) (List.replicate i 0) (i : Int) = some (List.replicate n 0) := by
  intro m
  induction m with
  | zero =>
    intro i k hm hi hk
    obtain ⟨k, rfl⟩ : ∃ k', k = k' + 1 := ⟨k - 1, by omega⟩
    unfold downpourref20_zeros.l0
    obtain rfl : i = n := by omega
    rw [if_neg (by omega)]
  | succ m ih =>
    intro i k hm hi hk
    obtain ⟨k, rfl⟩ : ∃ k', k = k' + 1 := ⟨k - 1, by omega⟩
    unfold downpourref20_zeros.l0
    rw [if_pos (by omega), if_pos (by rw [List.length_replicate]; omega), wr1 (by omega), ← List.replicate_succ']
    exact ih (i + 1) k (by omega) (by omega) (by omega)
theorem zeros_f (n : Nat) (hn : n ≤ 1000) : downpourref20_zeros.f 1001 (n : Int) = some (List.replicate n 0) := zeros_loop n hn n 0 1001 rfl (Nat.zero_le _) (by omega)
theorem new_f (l : List (List S44)) (hl : l.length ≤ 1000) : downpourref20_New.f 1001 l = some ((newS l).th, (newS l).at_, (newS l).su, (newS l).lo, (newS l).ce, (newS l).ch) := by
  unfold downpourref20_New.f
  rw [zeros_f l.length hl, Option.bind_some, Option.bind_some, show (4 : Int) = ((4 : Nat) : Int) from rfl, zeros_f 4 (by decide), Option.bind_some]
  rfl
theorem refNew_calls (A : Option Addr) (c : Nat) (l : List (List S44)) (w : World) (hC : CT w A l) (hc : l.length ≤ c) (hl : l.length ≤ 1000) : Calls Try.prog 22 #[.slice A l.length c] w (fun e w' => ∃ p, e = .returned (.agg (sysA (newS l) p)) ∧ SysC w' (newS l) p ∧ Below w.heap.size w w') :=
  (downpourref20_New.calls 1001 _ A c l _ _ _ _ _ _ w (V_of_hid (CT_up hC (hid_none w)) hc (Below.refl _ _)) (new_f l hl)).mono (by
    rintro e w' ⟨v0, v1, v2, v3, v4, v5, rfl, h0, h1, h2, h3, h4, h5, hb⟩
    obtain ⟨a0, c0, e0⟩ := Kd.V_slice h0
    subst e0
    obtain ⟨-, k0, r0⟩ := Kd.V_reads' h0
    obtain ⟨a1, c1, rfl, k1, r1⟩ := Kd.R_reads h1
    obtain ⟨a2, c2, rfl, k2, r2⟩ := Kd.R_reads h2
    obtain ⟨a3, c3, rfl, k3, r3⟩ := Kd.R_reads h3
    obtain ⟨a4, c4, rfl, k4, r4⟩ := Kd.R_reads h4
    obtain ⟨a5, c5, rfl, k5, r5⟩ := Kd.N_reads h5
    exact ⟨⟨a0, c0, a1, c1, a2, c2, a3, c3, a4, c4, a5, c5⟩, rfl, ⟨r0, k0, r1, k1, r2, k2, r3, k3, r4, k4, r5, k5⟩, hb⟩)
end Go.Proofs.Ythnimpbcfegmjaa.Own

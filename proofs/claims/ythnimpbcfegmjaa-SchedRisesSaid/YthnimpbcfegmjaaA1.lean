/-
  Merged texts of this seat: Model, Pl0, S0, S1, S2, S3, K26, S4, S5, S6, S7, S8, S9.
-/
import Derived.Test.YthnimpbcfegmjaaPx0
import Derived.Deep.RegionHeld3
import Derived.Lib.SliceRun
import Derived.Laws.EntriesVeiled
import Derived.Deep.QuietTactic
import Derived.BigQuiet
import Derived.Deep.RegionLawGrows
/-
  Plain model of layer 20: a system of threads, which may be, which thread can go on, and a thread's step. No program in sight but for the instruction's type.
-/
namespace Go.Proofs.Ythnimpbcfegmjaa.Model
open Go.RowKit Go.Proofs.Ythnimpbcfegmjaa.P
set_option linter.unusedVariables false

structure Syst where
  th : List (List S44)
  at_ : List Int
  su : List Int
  lo : List Int
  ce : List Int
  ch : List (List Int)
def Syst.none : Syst := ⟨[], [], [], [], [], []⟩
def inB (n lo hi : Int) : Bool := decide (lo ≤ n) && decide (n ≤ hi)
def okI (i : S44) : Bool := inB i.f0 0 4 && (inB i.f1 0 3 && inB i.f2 (-1000) 1000)
def smB (n : Int) : Bool := decide (-1073741824 < n) && decide (n < 1073741824)
/-- The lengths. -/
def lenB (s : Syst) : Bool := decide (s.th.length ≤ 8) && (decide (s.at_.length = s.th.length) && (decide (s.su.length = s.th.length) && (decide (s.lo.length = 4) && (decide (s.ce.length = 4) && decide (s.ch.length = 4)))))
/-- A thread, and how far it is. -/
def thB (l : List S44) (a : Int) : Bool := decide (l.length ≤ 16) && (inB a 0 l.length && l.all okI)
def thsB (s : Syst) : Bool := (s.th.zip s.at_).all (fun p => thB p.1 p.2)
def loB (s : Syst) : Bool := s.lo.all (fun x => inB x (-1) ((s.th.length : Int) - 1))
def chB (s : Syst) : Bool := s.ch.all (fun l => decide (l.length ≤ 2))
def numB (s : Syst) : Bool := (s.su ++ s.ce ++ s.ch.flatten).all smB
def rightB (s : Syst) : Bool := lenB s && (thsB s && (loB s && (chB s && numB s)))

/-- What a step leaves as it was: the shape. -/
structure Shp (s : Syst) : Prop where
  n : s.th.length ≤ 8
  at_ : s.at_.length = s.th.length
  su : s.su.length = s.th.length
  lo : s.lo.length = 4
  ce : s.ce.length = 4
  ch : s.ch.length = 4
  th : ∀ (t : Nat) (l : List S44) (a : Int), s.th[t]? = some l → s.at_[t]? = some a → l.length ≤ 16 ∧ 0 ≤ a ∧ a ≤ l.length ∧ ∀ i, i ∈ l → okI i = true
  los : ∀ x : Int, x ∈ s.lo → -1 ≤ x ∧ x < s.th.length
  chs : ∀ l : List Int, l ∈ s.ch → l.length ≤ 2
theorem right_shp {s : Syst} (h : rightB s = true) : Shp s := by
  simp only [rightB, lenB, thsB, loB, chB, numB, thB, inB, Bool.and_eq_true, decide_eq_true_eq, List.all_eq_true] at h
  obtain ⟨⟨h1, h2, h3, h4, h5, h6⟩, h7, h8, h9, _⟩ := h
  refine ⟨h1, h2, h3, h4, h5, h6, fun t l a hl ha => ?_, fun x hx => ?_, h9⟩
  · have hz : (l, a) ∈ s.th.zip s.at_ := by
      refine List.mem_of_getElem? (i := t) ?_
      rw [List.getElem?_zip_eq_some]
      exact ⟨hl, ha⟩
    obtain ⟨h10, ⟨h11, h12⟩, h13⟩ := h7 _ hz
    exact ⟨h10, h11, h12, h13⟩
  · have := h8 x hx
    omega
/-- The instruction that a thread is at. -/
def insA (s : Syst) (t : Nat) : Option S44 := match s.th[t]?, s.at_[t]? with
  | some l, some a => l[a.toNat]?
  | _, _ => Option.none
def canI (s : Syst) (i : S44) : Bool :=
  if i.f0 = 0 then s.lo.getD i.f1.toNat 0 == -1
  else if i.f0 = 3 then decide ((s.ch.getD i.f1.toNat []).length < 2)
  else if i.f0 = 4 then decide (0 < (s.ch.getD i.f1.toNat []).length)
  else true
def canB (s : Syst) (t : Nat) : Bool := match insA s t with
  | some i => canI s i
  | Option.none => false
/-- The threads that can go on. -/
def enL (s : Syst) : List Int := ((List.range s.th.length).filter (canB s)).map (fun t : Nat => (t : Int))
def doI (s : Syst) (t : Nat) (i : S44) : Syst :=
  let k := i.f1.toNat
  if i.f0 = 0 then { s with lo := s.lo.set k t }
  else if i.f0 = 1 then (if s.lo.getD k 0 = t then { s with lo := s.lo.set k (-1) } else s)
  else if i.f0 = 2 then { s with ce := s.ce.set k (wrap64 (s.ce.getD k 0 + i.f2)) }
  else if i.f0 = 3 then { s with ch := s.ch.set k (s.ch.getD k [] ++ [i.f2]) }
  else if i.f0 = 4 then { s with su := s.su.set t (wrap64 (s.su.getD t 0 + (s.ch.getD k []).getD 0 0)), ch := s.ch.set k ((s.ch.getD k []).drop 1) }
  else s
def stepS (s : Syst) (t : Nat) (i : S44) : Syst := doI { s with at_ := s.at_.set t (s.at_.getD t 0 + 1) } t i
def doneB (s : Syst) : Bool := (s.th.zip s.at_).all (fun p => decide ((p.1.length : Int) ≤ p.2))
def newS (l : List (List S44)) : Syst := ⟨l, List.replicate l.length 0, List.replicate l.length 0, [-1, -1, -1, -1], [0, 0, 0, 0], [[], [], [], []]⟩
end Go.Proofs.Ythnimpbcfegmjaa.Model
/-
  Plain: a step keeps the shape; picks.
-/
namespace Go.Proofs.Ythnimpbcfegmjaa.Model
open Go.RowKit Go.Proofs.Ythnimpbcfegmjaa.P
set_option linter.unusedVariables false

theorem insA_some {s : Syst} {t : Nat} {i : S44} (h : insA s t = some i) : ∃ l a, s.th[t]? = some l ∧ s.at_[t]? = some a ∧ l[a.toNat]? = some i := by
  unfold insA at h
  split at h
  · rename_i l a h1 h2
    exact ⟨l, a, h1, h2, h⟩
  · cases h
theorem canB_some {s : Syst} {t : Nat} (h : canB s t = true) : ∃ i, insA s t = some i ∧ canI s i = true := by
  unfold canB at h
  split at h
  · rename_i i hi
    exact ⟨i, hi, h⟩
  · cases h
/-- A step, by number. -/
def stepN (s : Syst) (t : Nat) : Syst := match insA s t with
  | some i => stepS s t i
  | none => s
theorem okI_b {i : S44} (h : okI i = true) : 0 ≤ i.f0 ∧ i.f0 ≤ 4 ∧ 0 ≤ i.f1 ∧ i.f1 ≤ 3 ∧ -1000 ≤ i.f2 ∧ i.f2 ≤ 1000 := by
  simp only [okI, inB, Bool.and_eq_true, decide_eq_true_eq] at h
  omega
theorem doI_th (s : Syst) (t : Nat) (i : S44) : (doI s t i).th = s.th ∧ (doI s t i).at_ = s.at_ := by
  unfold doI
  dsimp only
  repeat' split
  all_goals exact ⟨rfl, rfl⟩
theorem stepN_th (s : Syst) (t : Nat) : (stepN s t).th = s.th := by
  unfold stepN
  split
  · exact (doI_th _ _ _).1
  · rfl
theorem mem_set_or {α : Type} {l : List α} {k : Nat} {x y : α} (h : y ∈ l.set k x) : y ∈ l ∨ y = x := List.mem_or_eq_of_mem_set h
theorem step_shp {s : Syst} {t : Nat} {i : S44} (hS : Shp s) (hi : insA s t = some i) (hc : canI s i = true) : Shp (stepS s t i) := by
  obtain ⟨l, a, hl, ha, hli⟩ := insA_some hi
  have htl := (List.getElem?_eq_some_iff.1 hl).1
  have hta := (List.getElem?_eq_some_iff.1 ha).1
  obtain ⟨b1, b2, b3, b4⟩ := hS.th t l a hl ha
  have hal := (List.getElem?_eq_some_iff.1 hli).1
  have hoi := b4 i (List.mem_of_getElem? hli)
  obtain ⟨o1, o2, o3, o4, -, -⟩ := okI_b hoi
  have h0 : Shp { s with at_ := s.at_.set t (s.at_.getD t 0 + 1) } := by
    have hg : s.at_.getD t 0 = a := by rw [List.getD_eq_getElem?_getD, ha]; rfl
    refine { hS with at_ := by rw [List.length_set]; exact hS.at_, th := fun t' l' a' hl' ha' => ?_ }
    rw [hg] at ha'
    rcases Nat.decEq t t' with hne | rfl
    · rw [List.getElem?_set_ne hne] at ha'
      exact hS.th t' l' a' hl' ha'
    · rw [List.getElem?_set_self hta] at ha'
      have hl2 : s.th[t]? = some l' := hl'
      rw [hl] at hl2
      obtain rfl := Option.some.inj hl2
      obtain rfl := Option.some.inj ha'
      exact ⟨b1, by omega, by omega, b4⟩
  have hsu := h0.su
  unfold stepS
  generalize hs1 : ({ s with at_ := s.at_.set t (s.at_.getD t 0 + 1) } : Syst) = s1 at h0
  have hth : s1.th = s.th := by rw [← hs1]
  have hch : s1.ch = s.ch := by rw [← hs1]
  unfold doI
  dsimp only
  split
  · refine { h0 with lo := by rw [List.length_set]; exact h0.lo, los := fun x hx => ?_ }
    rcases mem_set_or hx with hx | rfl
    · exact h0.los x hx
    · exact ⟨by omega, by rw [hth]; exact Int.ofNat_lt.2 htl⟩
  · split
    · split
      · refine { h0 with lo := by rw [List.length_set]; exact h0.lo, los := fun x hx => ?_ }
        rcases mem_set_or hx with hx | rfl
        · exact h0.los x hx
        · exact ⟨by omega, by omega⟩
      · exact h0
    · split
      · exact { h0 with ce := by rw [List.length_set]; exact h0.ce }
      · split
        · rename_i h3
          refine { h0 with ch := by rw [List.length_set]; exact h0.ch, chs := fun x hx => ?_ }
          rcases mem_set_or hx with hx | rfl
          · exact h0.chs x hx
          · have hc2 : (s.ch.getD i.f1.toNat []).length < 2 := by
              unfold canI at hc
              rw [if_neg (by omega), if_pos h3] at hc
              exact of_decide_eq_true hc
            rw [hch, List.length_append, List.length_singleton]
            omega
        · split
          · refine { h0 with su := by rw [List.length_set]; exact h0.su, ch := by rw [List.length_set]; exact h0.ch, chs := fun x hx => ?_ }
            rcases mem_set_or hx with hx | rfl
            · exact h0.chs x hx
            · rw [List.length_drop]
              by_cases hk : i.f1.toNat < s1.ch.length
              · have := h0.chs (s1.ch.getD i.f1.toNat []) (by rw [List.getD_eq_getElem?_getD, List.getElem?_eq_getElem hk]; exact List.getElem_mem hk)
                omega
              · rw [List.getD_eq_getElem?_getD, List.getElem?_eq_none (by omega)]
                simp
          · exact h0
theorem stepN_eq {s : Syst} {t : Nat} {i : S44} (h : insA s t = some i) : stepN s t = stepS s t i := by unfold stepN; rw [h]
theorem stepN_shp {s : Syst} {t : Nat} (hS : Shp s) (h : canB s t = true) : Shp (stepN s t) := by
  obtain ⟨i, hi, hc⟩ := canB_some h
  rw [stepN_eq hi]
  exact step_shp hS hi hc
theorem mem_enL {s : Syst} {x : Int} (h : x ∈ enL s) : ∃ t : Nat, x = t ∧ t < s.th.length ∧ canB s t = true := by
  unfold enL at h
  obtain ⟨t, ht, rfl⟩ := List.mem_map.1 h
  obtain ⟨h1, h2⟩ := List.mem_filter.1 ht
  exact ⟨t, rfl, List.mem_range.1 h1, h2⟩
/-- Which thread a pick means. -/
def pickI (q n : Int) : Int := Int.tmod (Int.tmod q n + n) n
theorem pickI_lt {q n : Int} (hn : 0 < n) : 0 ≤ pickI q n ∧ pickI q n < n := by
  unfold pickI
  have h1 := Int.tmod_lt_of_pos q hn
  have h2 : -n < Int.tmod q n := by
    have := Int.lt_tmod_of_pos q hn
    omega
  exact ⟨Int.tmod_nonneg _ (by omega), Int.tmod_lt_of_pos _ hn⟩
theorem pick_eq {q : Int} {n j : Nat} (hn : 0 < n) (hn8 : n ≤ 8) (hj : pickI q n = j) : (wrap64 (Int.tmod q n + n)).tmod n = j := by
  have h1 := Int.tmod_lt_of_pos q (b := (n : Int)) (by omega)
  have h2 := Int.lt_tmod_of_pos q (b := (n : Int)) (by omega)
  have hw : wrap64 (Int.tmod q n + n) = Int.tmod q n + n := by unfold wrap64; omega
  rw [hw]
  exact hj
def pickT (s : Syst) (q : Int) : Nat := ((enL s).getD (pickI q (enL s).length).toNat 0).toNat
def pick1 (r : Syst × List Int) (q : Int) : Syst × List Int := if enL r.1 = [] then r else (stepN r.1 (pickT r.1 q), r.2 ++ [(pickT r.1 q : Int)])
/-- A system behind picks, and who went on. -/
def runS (s : Syst) (l : List Int) : Syst × List Int := l.foldl pick1 (s, [])
theorem pickT_mem {s : Syst} (q : Int) (h : enL s ≠ []) : (pickT s q : Int) ∈ enL s ∧ (enL s).getD (pickI q (enL s).length).toNat 0 = (pickT s q : Int) ∧ (pickI q (enL s).length).toNat < (enL s).length := by
  have hp : 0 < (enL s).length := List.length_pos_iff.2 h
  obtain ⟨h1, h2⟩ := pickI_lt (q := q) (n := (enL s).length) (by omega)
  have hlt : (pickI q (enL s).length).toNat < (enL s).length := by omega
  have hm : (enL s).getD (pickI q (enL s).length).toNat 0 ∈ enL s := by
    rw [List.getD_eq_getElem?_getD, List.getElem?_eq_getElem hlt]
    exact List.getElem_mem hlt
  obtain ⟨t, ht, _, _⟩ := mem_enL hm
  have he : (pickT s q : Int) = (enL s).getD (pickI q (enL s).length).toNat 0 := by
    unfold pickT
    rw [ht]
    rfl
  exact ⟨by rw [he]; exact hm, he.symm, hlt⟩
theorem pickT_can {s : Syst} (q : Int) (h : enL s ≠ []) : pickT s q < s.th.length ∧ canB s (pickT s q) = true := by
  obtain ⟨t, e, h1, h2⟩ := mem_enL (pickT_mem q h).1
  have e' : pickT s q = t := by omega
  rw [e']
  exact ⟨h1, h2⟩
theorem pick1_stop {r : Syst × List Int} (h : enL r.1 = []) (q : Int) : pick1 r q = r := if_pos h
theorem pick1_go {r : Syst × List Int} (h : enL r.1 ≠ []) (q : Int) : pick1 r q = (stepN r.1 (pickT r.1 q), r.2 ++ [(pickT r.1 q : Int)]) := if_neg h
theorem fold_stop {r : Syst × List Int} (h : enL r.1 = []) (l : List Int) : l.foldl pick1 r = r := by
  induction l with
  | nil => rfl
  | cons q l ih => rw [List.foldl_cons, pick1_stop h, ih]
def runTo (s : Syst) (l : List Int) (k : Nat) : Syst × List Int := runS s (l.take k)
theorem runTo_succ {s : Syst} {l : List Int} {k : Nat} {q : Int} (h : l[k]? = some q) : runTo s l (k + 1) = pick1 (runTo s l k) q := by
  unfold runTo runS
  rw [List.take_add_one, h, List.foldl_append]
  rfl
theorem runTo_stop {s : Syst} {l : List Int} {k : Nat} (h : enL (runTo s l k).1 = []) : runS s l = runTo s l k := by
  unfold runTo runS at *
  conv => lhs; rw [← List.take_append_drop k l, List.foldl_append]
  exact fold_stop h _
theorem runTo_all (s : Syst) (l : List Int) : runTo s l l.length = runS s l := by unfold runTo; rw [List.take_length]
theorem pick1_shp {r : Syst × List Int} (h : Shp r.1) (q : Int) : Shp (pick1 r q).1 ∧ (pick1 r q).1.th = r.1.th := by
  by_cases he : enL r.1 = []
  · rw [pick1_stop he]; exact ⟨h, rfl⟩
  · rw [pick1_go he]; exact ⟨stepN_shp h (pickT_can q he).2, stepN_th _ _⟩
theorem fold_shp {r : Syst × List Int} (h : Shp r.1) (l : List Int) : Shp (l.foldl pick1 r).1 ∧ (l.foldl pick1 r).1.th = r.1.th := by
  induction l generalizing r with
  | nil => exact ⟨h, rfl⟩
  | cons q l ih =>
    obtain ⟨h1, h2⟩ := pick1_shp h q
    obtain ⟨h3, h4⟩ := ih h1
    exact ⟨h3, h4.trans h2⟩
theorem runTo_shp {s : Syst} (h : Shp s) (l : List Int) (k : Nat) : Shp (runTo s l k).1 ∧ (runTo s l k).1.th = s.th := fold_shp (r := (s, [])) h _
theorem fold_len (r : Syst × List Int) (l : List Int) : (l.foldl pick1 r).2.length ≤ r.2.length + l.length := by
  induction l generalizing r with
  | nil => exact Nat.le_refl _
  | cons q l ih =>
    refine Nat.le_trans (ih _) ?_
    rw [List.length_cons]
    unfold pick1
    split
    · omega
    · simp; omega
theorem runTo_len (s : Syst) (l : List Int) (k : Nat) : (runTo s l k).2.length ≤ k := by
  refine Nat.le_trans (fold_len (s, []) _) ?_
  simp
  omega
end Go.Proofs.Ythnimpbcfegmjaa.Model
/-
  Layer 20's small functions, walked by hand: in, instr, small, and slices' IndexFunc and ContainsFunc over them.
-/
namespace Go.Proofs.Ythnimpbcfegmjaa.Own
open Go.RowKit Go.Proofs.YthnimpbcfegmjaaW.PrintWords Go.Proofs.YthnimpbcfegmjaaW.PrintLast Go.Proofs.YthnimpbcfegmjaaW.PrintMore Go.Proofs.Ythnimpbcfegmjaa.P Go.Proofs.Ythnimpbcfegmjaa.Model
set_option linter.unusedVariables false

theorem take_snoc {α : Type} {l : List α} {k : Nat} {x : α} (h : l[k]? = some x) : l.take (k + 1) = l.take k ++ [x] := by
  obtain ⟨hk, rfl⟩ := List.getElem?_eq_some_iff.mp h
  exact List.take_succ_eq_append_getElem hk
theorem rd44 {l : List S44} {i : Nat} {x : S44} (h : l[i]? = some x) : rd_T44 l (i : Int) = x := by unfold rd_T44; rw [Int.toNat_natCast, List.getD_eq_getElem?_getD, h]; rfl
theorem rdI {l : List Int} {i : Nat} {x : Int} (h : l[i]? = some x) : rd l (i : Int) = x := by unfold rd; rw [Int.toNat_natCast, List.getD_eq_getElem?_getD, h]; rfl
theorem in_calls (n lo hi : Int) (w : World) : Calls Try.prog 38 #[.int .i64 n, .int .i64 lo, .int .i64 hi] w fun e w' => e = .returned (.bool (inB n lo hi)) ∧ w = w' := by
  by_cases h : lo ≤ n
  · have e : inB n lo hi = decide (n ≤ hi) := by unfold inB; simp [h]
    rw [e]
    have h1 : decide (lo ≤ n) = true := decide_eq_true h
    clear e
    go_enter Try.func38, Try.ntmps38
    go_wp2
    go_ret
    exact ⟨rfl, rfl⟩
  · have e : inB n lo hi = false := by unfold inB; simp [h]
    rw [e]
    have h1 : decide (lo ≤ n) = false := decide_eq_false h
    clear e
    go_enter Try.func38, Try.ntmps38
    go_wp2
    go_ret
    exact ⟨rfl, rfl⟩
abbrev iv (i : S44) : Value := .agg #[.int .i64 i.f0, .int .i64 i.f1, .int .i64 i.f2]
set_option maxRecDepth 100000 in
set_option maxHeartbeats 4000000 in
theorem instr_calls (i : S44) (w : World) : Calls Try.prog 41 #[iv i] w fun e w' => e = .returned (.bool (okI i)) ∧ Below w.heap.size w w' := by
  cases h1 : inB i.f0 0 4 with
  | false =>
    have e : okI i = false := by unfold okI; rw [h1]; rfl
    rw [e]
    have H1 := Aside0.mk h1
    clear e h1
    go_enter Try.func41, Try.ntmps41
    go_wp2_with (go_at_call 38; refine (in_calls _ _ _ _).mono ?_; rintro e w' ⟨rfl, rfl⟩; rw [H1.out])
    go_ret
    exact ⟨rfl, (Below.refl _ _).alloc (Nat.le_refl _) _⟩
  | true =>
    cases h2 : inB i.f1 0 3 with
    | false =>
      have e : okI i = false := by unfold okI; rw [h1, h2]; rfl
      rw [e]
      have H1 := Aside0.mk h1
      have H2 := Aside0.mk h2
      clear e h1 h2
      go_enter Try.func41, Try.ntmps41
      go_wp2_with (go_at_call 38; refine (in_calls _ _ _ _).mono ?_; rintro e w' ⟨rfl, rfl⟩; first | rw [H1.out] | rw [H2.out])
      go_ret
      exact ⟨rfl, (Below.refl _ _).alloc (Nat.le_refl _) _⟩
    | true =>
      have e : okI i = inB i.f2 (-1000) 1000 := by unfold okI; rw [h1, h2]; rfl
      rw [e]
      have H1 := Aside0.mk h1
      have H2 := Aside0.mk h2
      clear e h1 h2
      go_enter Try.func41, Try.ntmps41
      go_wp2_with (go_at_call 38; refine (in_calls _ _ _ _).mono ?_; rintro e w' ⟨rfl, rfl⟩; first | rw [H1.out] | rw [H2.out] | skip)
      go_ret
      exact ⟨rfl, (Below.refl _ _).alloc (Nat.le_refl _) _⟩
theorem notInstr_calls (i : S44) (w : World) : Calls Try.prog 40 #[iv i] w fun e w' => e = .returned (.bool (!okI i)) ∧ Below w.heap.size w w' := by
  have HB0 : Aside0 (Below w.heap.size w (w.alloc (.cells #[.int .i64 i.f0, .int .i64 i.f1, .int .i64 i.f2] 44))) := ⟨(Below.refl _ _).alloc (Nat.le_refl _) _⟩
  go_enter Try.func40, Try.ntmps40
  go_wp2_with (go_at_call 41; refine (instr_calls i _).mono ?_; rintro e w' ⟨rfl, hb⟩)
  go_ret
  exact ⟨rfl, HB0.out.trans (hb.mono HB0.out.size)⟩
theorem small_calls (n : Int) (w : World) : Calls Try.prog 44 #[.int .i64 n] w fun e w' => e = .returned (.bool (smB n)) ∧ w = w' := by
  by_cases h : -1073741824 < n
  · have e : smB n = decide (n < 1073741824) := by unfold smB; simp [h]
    rw [e]
    have h1 : decide (-1073741824 < n) = true := decide_eq_true h
    clear e
    go_enter Try.func44, Try.ntmps44
    go_wp2
    go_ret
    exact ⟨rfl, rfl⟩
  · have e : smB n = false := by unfold smB; simp [h]
    rw [e]
    have h1 : decide (-1073741824 < n) = false := decide_eq_false h
    clear e
    go_enter Try.func44, Try.ntmps44
    go_wp2
    go_ret
    exact ⟨rfl, rfl⟩
theorem notSmall_calls (n : Int) (w : World) : Calls Try.prog 43 #[.int .i64 n] w fun e w' => e = .returned (.bool (!smB n)) ∧ w = w' := by
  go_enter Try.func43, Try.ntmps43
  go_wp2_with (go_at_call 44; refine (small_calls n _).mono ?_; rintro e w' ⟨rfl, rfl⟩)
  go_ret
  exact ⟨rfl, rfl⟩

set_option maxRecDepth 100000 in
set_option maxHeartbeats 4000000 in
theorem indexI_calls (A : Option Addr) (c : Nat) (l : List S44) (w : World) (hC : Kd.C k44 w A l.length l) (hl : l.length ≤ 100000) :
    Calls Try.prog 61 #[.slice A l.length c, .func (.func 40) #[] #[]] w fun e w' => ∃ r : Int, e = .returned (.int .i64 r) ∧ (decide (0 ≤ r)) = !l.all okI ∧ Below w.heap.size w w' := by
  have HC := Aside0.mk hC
  clear hC
  go_enter Try.func61, Try.ntmps61
  go_wp2
  go_loopw [8] (fun v8 W => ∃ k : Nat, k ≤ l.length ∧ v8 = .int .i64 k ∧ Aside0 ((l.take k).all okI = true) ∧ Aside0 (Below w.heap.size w W)) (fun v8 _ => l.length - (intOf v8).toNat)
  case atStart => exact ⟨0, Nat.zero_le _, rfl, ⟨rfl⟩, ⟨Below.refl _ _⟩⟩
  case round =>
    obtain ⟨k, hk, rfl, HA, HB⟩ := hrel
    by_cases hlt : k < l.length
    · obtain ⟨x, hx⟩ : ∃ x, l[k]? = some x := ⟨_, List.getElem?_eq_getElem hlt⟩
      obtain ⟨ad, rfl, h0, h1, h2⟩ := at_T44 (Kd.C_below HC.out HB.out) (k : Int) (by omega) (by omega)
      rw [rd44 hx, Int.toNat_natCast] at h0 h1 h2
      have HX := Aside0.mk hx
      clear hx
      cases hq : okI x with
      | true =>
        have HU : Aside0 ((l.take (k + 1)).all okI = true) := ⟨by rw [take_snoc HX.out, List.all_append, HA.out]; simp [hq]⟩
        have HQ := Aside0.mk hq
        clear hq
        go_wp2_with (go_at_call 40; refine (notInstr_calls x _).mono ?_; rintro e w' ⟨rfl, hb⟩; rw [HQ.out])
        go_roundw
        case rel => exact ⟨k + 1, hlt, by go_num, HU, ⟨HB.out.trans (hb.mono HB.out.size)⟩⟩
        case measure => simp [intOf]; omega
      | false =>
        have HQ := Aside0.mk hq
        clear hq
        go_wp2_with (go_at_call 40; refine (notInstr_calls x _).mono ?_; rintro e w' ⟨rfl, hb⟩; rw [HQ.out])
        go_ret
        refine ⟨k, rfl, ?_, HB.out.trans (hb.mono HB.out.size)⟩
        rw [decide_eq_true (by omega)]
        have : l.all okI = false := List.all_eq_false.mpr ⟨x, List.mem_of_getElem? HX.out, by rw [HQ.out]; simp⟩
        rw [this]; rfl
    · go_wp2
      go_ret
      obtain rfl : k = l.length := by omega
      exact ⟨-1, rfl, by rw [List.take_length] at HA; rw [HA.out]; rfl, HB.out⟩
theorem containsI_calls (A : Option Addr) (c : Nat) (l : List S44) (w : World) (hC : Kd.C k44 w A l.length l) (hl : l.length ≤ 100000) :
    Calls Try.prog 39 #[.slice A l.length c, .func (.func 40) #[] #[]] w fun e w' => e = .returned (.bool (!l.all okI)) ∧ Below w.heap.size w w' := by
  have HC := Aside0.mk hC
  clear hC
  go_enter Try.func39, Try.ntmps39
  go_wp2_with (go_at_call 61; refine (indexI_calls A c l _ HC.out hl).mono ?_; rintro e w' ⟨r, rfl, hr, hb⟩; have HR := Aside0.mk hr; clear hr)
  go_ret
  exact ⟨by rw [← HR.out]; rfl, hb⟩
set_option maxRecDepth 100000 in
set_option maxHeartbeats 4000000 in
theorem indexN_calls (A : Option Addr) (c : Nat) (l : List Int) (w : World) (hC : Kd.C (Kd.int .i64) w A l.length l) (hl : l.length ≤ 100000) :
    Calls Try.prog 62 #[.slice A l.length c, .func (.func 43) #[] #[]] w fun e w' => ∃ r : Int, e = .returned (.int .i64 r) ∧ (decide (0 ≤ r)) = !l.all smB ∧ w = w' := by
  have HC := Aside0.mk hC
  clear hC
  go_enter Try.func62, Try.ntmps62
  go_wp2
  go_loop [8] (fun v8 => ∃ k : Nat, k ≤ l.length ∧ v8 = .int .i64 k ∧ Aside0 ((l.take k).all smB = true)) (fun v8 => l.length - (intOf v8).toNat)
  case atStart => exact ⟨0, Nat.zero_le _, rfl, ⟨rfl⟩⟩
  case round =>
    obtain ⟨k, hk, rfl, HA⟩ := hrel
    by_cases hlt : k < l.length
    · obtain ⟨x, hx⟩ : ∃ x, l[k]? = some x := ⟨_, List.getElem?_eq_getElem hlt⟩
      obtain ⟨ad, rfl, h0⟩ := Kd.at_int HC.out (k : Int) (by omega) (by omega)
      rw [rdI hx, Int.toNat_natCast] at h0
      have HX := Aside0.mk hx
      clear hx
      cases hq : smB x with
      | true =>
        have HU : Aside0 ((l.take (k + 1)).all smB = true) := ⟨by rw [take_snoc HX.out, List.all_append, HA.out]; simp [hq]⟩
        have HQ := Aside0.mk hq
        clear hq
        go_wp2_with (go_at_call 43; refine (notSmall_calls x _).mono ?_; rintro e w' ⟨rfl, rfl⟩; rw [HQ.out])
        go_round
        case rel => exact ⟨k + 1, hlt, by go_num, HU⟩
        case measure => simp [intOf]; omega
      | false =>
        have HQ := Aside0.mk hq
        clear hq
        go_wp2_with (go_at_call 43; refine (notSmall_calls x _).mono ?_; rintro e w' ⟨rfl, rfl⟩; rw [HQ.out])
        go_ret
        refine ⟨k, rfl, ?_, rfl⟩
        rw [decide_eq_true (by omega)]
        have : l.all smB = false := List.all_eq_false.mpr ⟨x, List.mem_of_getElem? HX.out, by rw [HQ.out]; simp⟩
        rw [this]; rfl
    · go_wp2
      go_ret
      obtain rfl : k = l.length := by omega
      exact ⟨-1, rfl, by rw [List.take_length] at HA; rw [HA.out]; rfl, rfl⟩
theorem containsN_calls (A : Option Addr) (c : Nat) (l : List Int) (w : World) (hC : Kd.C (Kd.int .i64) w A l.length l) (hl : l.length ≤ 100000) :
    Calls Try.prog 42 #[.slice A l.length c, .func (.func 43) #[] #[]] w fun e w' => e = .returned (.bool (!l.all smB)) ∧ w = w' := by
  have HC := Aside0.mk hC
  clear hC
  go_enter Try.func42, Try.ntmps42
  go_wp2_with (go_at_call 62; refine (indexN_calls A c l _ HC.out hl).mono ?_; rintro e w' ⟨r, rfl, hr, rfl⟩; have HR := Aside0.mk hr; clear hr)
  go_ret
  exact ⟨by rw [← HR.out]; rfl, rfl⟩
end Go.Proofs.Ythnimpbcfegmjaa.Own
/-
  Rows of whole numbers, and rows of such rows, of the call's own; slices' Clone, Grow, Concat and Clip, walked by hand.
-/
namespace Go.Proofs.Ythnimpbcfegmjaa.Own
open Go.RowKit Go.Proofs.YthnimpbcfegmjaaW.PrintWords Go.Proofs.YthnimpbcfegmjaaW.PrintLast Go.Proofs.YthnimpbcfegmjaaW.PrintMore Go.Proofs.Ythnimpbcfegmjaa.P Go.Proofs.Ythnimpbcfegmjaa.Model
set_option linter.unusedVariables false

structure Hold (p : Prop) : Prop where mk :: (out : p)
theorem hold {p : Prop} (h : Hold p) : p := h.out
/-- Whole numbers that are read; rows of them; instructions in threads. -/
abbrev CI (w : World) (A : Option Addr) (xs : List Int) : Prop := Kd.C (Kd.int .i64) w A xs.length xs
abbrev CR (w : World) (A : Option Addr) (xs : List (List Int)) : Prop := Kd.C (Kd.slice 3 (Kd.int .i64)) w A xs.length xs
abbrev CT (w : World) (A : Option Addr) (xs : List (List S44)) : Prop := Kd.C (Kd.slice 44 k44) w A xs.length xs
/-- A row of whole numbers of the call's own. -/
def RowI (w : World) (base : Nat) (v : Value) (xs : List Int) : Prop := w.ownsRow base 3 1 v xs.length (nums .i64 xs)
theorem nums_length (k : IntKind) (xs : List Int) : (nums k xs).length = xs.length := by simp [nums]
theorem nums_get {k : IntKind} {xs : List Int} {j : Nat} {x : Int} (h : xs[j]? = some x) : (nums k xs)[j]? = some (.int k x) := by simp [nums, h]
theorem nums_one (k : IntKind) (xs : List Int) : ∀ u ∈ nums k xs, u.oneCell' = true := by
  intro u hu
  simp only [nums, List.mem_map] at hu
  obtain ⟨x, _, rfl⟩ := hu
  rfl
theorem R_rowI {w : World} {base : Nat} {v : Value} {xs : List Int} {ok : Nat → Prop} (h : Kd.R (Kd.int .i64) 3 w base ok v xs) : RowI w base v xs := by
  obtain ⟨_, inner, hown, hr⟩ := h
  have hl : inner.length = xs.length := by have := hr.1; rw [this]; exact Nat.mul_one _
  have e : inner = nums .i64 xs := by
    refine List.ext_getElem? fun j => ?_
    by_cases hj : j < inner.length
    · obtain ⟨x, hx⟩ : ∃ x, xs[j]? = some x := ⟨_, List.getElem?_eq_getElem (by omega)⟩
      have h1 : (inner.drop (j * 1)).take 1 = [.int .i64 x] := hr.2 j x hx
      rw [nums_get hx]
      have h2 : ((inner.drop (j * 1)).take 1)[0]? = some (.int .i64 x) := by rw [h1]; rfl
      rwa [List.getElem?_take, if_pos (by omega), List.getElem?_drop, Nat.mul_one, Nat.add_zero] at h2
    · rw [List.getElem?_eq_none (by omega), List.getElem?_eq_none (by rw [nums_length]; omega)]
  subst e
  exact hown
theorem rowI_R {w : World} {base : Nat} {v : Value} {xs : List Int} (h : RowI w base v xs) : Kd.R (Kd.int .i64) 3 w base (fun _ => True) v xs :=
  ⟨fun _ _ => trivial, nums .i64 xs, h, by rw [nums_length]; exact (Nat.mul_one _).symm, fun j p hp => by
    show ((nums .i64 xs).drop (j * 1)).take 1 = [.int .i64 p]
    have hj := (List.getElem?_eq_some_iff.1 hp).1
    rw [Nat.mul_one, List.drop_eq_getElem_cons (by rw [nums_length]; omega)]
    simp only [List.take_succ_cons, List.take_zero]
    have := nums_get (k := .i64) hp
    rw [List.getElem?_eq_getElem (by rw [nums_length]; omega)] at this
    rw [Option.some.inj this]⟩
theorem rowI_C {w : World} {base : Nat} {v : Value} {xs : List Int} (h : RowI w base v xs) : ∃ A c, v = .slice A xs.length c ∧ xs.length ≤ c ∧ CI w A xs := Kd.R_reads (rowI_R h)
theorem below_row {w w1 : World} {base n size : Nat} {e : TypeId} {v : Value} {xs : List Value} (h : w.ownsRow base e size v n xs) (hb : Below w.heap.size w w1) : w1.ownsRow base e size v n xs := pw_own_below h hb
theorem own_open {w : World} {base g n c size : Nat} {e : TypeId} {xs : List Value} (h : w.ownsRow base e size (.slice (some ⟨g, 0, none⟩) n c) n xs) :
    ∃ cur, base ≤ g ∧ w.heap[g]? = some (.cells cur e (0, 0)) ∧ n ≤ c ∧ c ≤ maxLen ∧ cur.size = c * size ∧ cur.toList.take (n * size) = xs := by
  rcases h.2 with ⟨h1, _⟩ | ⟨g', cap, cur, h1, h2, h3, h4, h5, h6, h7⟩
  · cases h1
  · cases h1
    exact ⟨cur, h2, h3, h4, h5, h6, h7⟩
theorem own_cell {w : World} {base g n c size : Nat} {e : TypeId} {xs : List Value} (h : w.ownsRow base e size (.slice (some ⟨g, 0, none⟩) n c) n xs) {j : Nat} {u : Value} (hj : xs[j]? = some u) : w.cell? ⟨g, j, none⟩ = some u := by
  obtain ⟨cur, _, hb, _, _, _, ht⟩ := own_open h
  rw [blk_cell hb, ← Array.getElem?_toList]
  rw [← ht, List.getElem?_take] at hj
  split at hj
  · exact hj
  · cases hj
theorem own_set {w : World} {base g n c size : Nat} {e : TypeId} {xs : List Value} (h : w.ownsRow base e size (.slice (some ⟨g, 0, none⟩) n c) n xs) (j : Nat) (u : Value) :
    (w.setCell ⟨g, j, none⟩ u).ownsRow base e size (.slice (some ⟨g, 0, none⟩) n c) n (xs.set j u) := by
  obtain ⟨cur, h1, hb, h2, h3, h4, ht⟩ := own_open h
  refine ⟨by rw [List.length_set]; exact h.1, .inr ⟨g, c, cur.setIfInBounds j u, rfl, h1, blk_set hb j u, h2, h3, by simpa using h4, ?_⟩⟩
  rw [Array.toList_setIfInBounds, List.take_set, ht]
/-- A row of rows: the outer one is the call's own, the inner ones are only read. -/
def RowR (w : World) (base : Nat) (v : Value) (us : List Value) (xs : List (List Int)) : Prop :=
  w.ownsRow base 23 1 v xs.length us ∧ ∀ (j : Nat) (x : List Int) (u : Value), xs[j]? = some x → us[j]? = some u → ∃ (A : Option Addr) (c : Nat), u = Value.slice A x.length c ∧ x.length ≤ c ∧ CI w A x
theorem RowR.below {w w1 : World} {base : Nat} {v : Value} {us : List Value} {xs : List (List Int)} (h : RowR w base v us xs) (hb : Below w.heap.size w w1) : RowR w1 base v us xs :=
  ⟨below_row h.1 hb, fun j x u hx hu => by obtain ⟨A, c, h1, h2, h3⟩ := h.2 j x u hx hu; exact ⟨A, c, h1, h2, Kd.C_below h3 hb⟩⟩
theorem RowR.C {w : World} {base : Nat} {v : Value} {us : List Value} {xs : List (List Int)} (h : RowR w base v us xs) : ∃ A c, v = .slice A xs.length c ∧ xs.length ≤ c ∧ CR w A xs := by
  obtain ⟨h1, h2⟩ := h
  have hul : us.length = xs.length := by have := h1.1; rwa [Nat.mul_one] at this
  have hr : Reps ((Kd.slice 3 (Kd.int .i64)).K w) 1 xs us := ⟨by rw [hul, Nat.mul_one], fun j p hp => by
    have hj := (List.getElem?_eq_some_iff.1 hp).1
    obtain ⟨u, hu⟩ : ∃ u, us[j]? = some u := ⟨_, List.getElem?_eq_getElem (by omega)⟩
    obtain ⟨A, c, rfl, h3, h4⟩ := h2 j p u hp hu
    rw [Nat.mul_one, List.drop_eq_getElem_cons (by omega)]
    simp only [List.take_succ_cons, List.take_zero]
    have e : us[j] = .slice A p.length c := by rw [List.getElem?_eq_getElem (by omega)] at hu; exact Option.some.inj hu
    rw [e]
    exact ⟨A, c, rfl, h3, h4⟩⟩
  obtain ⟨A, c, hv, hC⟩ := own_reads_row h1 hr rfl
  refine ⟨A, c, hv, ?_, hC⟩
  rcases h1.2 with ⟨e, h0⟩ | ⟨g, cap, cur, e, _, _, hle, _⟩
  · omega
  · rw [hv] at e
    injection e with _ _ e
    omega
/-- Where a row of rows is read: its cells. -/
theorem CR_cells {w : World} {ad : Addr} {xs : List (List Int)} (h : CR w (some ad) xs) : ∃ us : List Value, us.length = xs.length ∧ (∀ (j : Nat) (u : Value), us[j]? = some u → w.cell? (ad.add j) = some u ∧ u.oneCell' = true) ∧
    ∀ (j : Nat) (x : List Int) (u : Value), xs[j]? = some x → us[j]? = some u → ∃ (A : Option Addr) (c : Nat), u = Value.slice A x.length c ∧ x.length ≤ c ∧ CI w A x := by
  have hall : ∀ j, j < xs.length → ∃ u, w.cell? (ad.add j) = some u ∧ u.oneCell' = true ∧ ∀ x, xs[j]? = some x → ∃ (A : Option Addr) (c : Nat), u = Value.slice A x.length c ∧ x.length ≤ c ∧ CI w A x := by
    intro j hj
    obtain ⟨ad', A, c, e, h1, h2, h3⟩ := at_L3 h (j : Int) (by omega) (by omega)
    injection e with e
    subst e
    rw [Int.toNat_natCast] at h1
    refine ⟨_, h1, rfl, fun x hx => ?_⟩
    have e2 : rd_L3 xs (j : Int) = x := by unfold rd_L3; rw [Int.toNat_natCast, List.getD_eq_getElem?_getD, hx]; rfl
    rw [e2] at h2 h3 ⊢
    exact ⟨A, c, rfl, h2, h3⟩
  refine ⟨(List.range xs.length).map (fun j => (w.cell? (ad.add j)).getD .nilIface), by simp, fun j u hu => ?_, fun j x u hx hu => ?_⟩
  · rw [List.getElem?_map] at hu
    obtain ⟨i, hi, rfl⟩ := Option.map_eq_some_iff.1 hu
    obtain ⟨hj, hi2⟩ := List.getElem?_eq_some_iff.1 hi
    simp only [List.getElem_range] at hi2
    subst hi2
    obtain ⟨u, h1, h2, _⟩ := hall j (by simpa using hj)
    rw [h1]
    exact ⟨rfl, h2⟩
  · rw [List.getElem?_map] at hu
    obtain ⟨i, hi, rfl⟩ := Option.map_eq_some_iff.1 hu
    obtain ⟨hj, hi2⟩ := List.getElem?_eq_some_iff.1 hi
    simp only [List.getElem_range] at hi2
    subst hi2
    obtain ⟨u, h1, _, h3⟩ := hall j (by simpa using hj)
    rw [h1]
    exact h3 x hx
theorem nil_of_none {α : Type} {d : Kd α} {w : World} {l : List α} (h : Kd.C d w none l.length l) : l = [] := by
  rcases Nat.eq_zero_or_pos l.length with h0 | h0
  · exact List.eq_nil_of_length_eq_zero h0
  · obtain ⟨ad, e, _⟩ := h.2.2 h0
    cases e

section
variable {ops : Array Oper} {rest : List Oper} {o : Oper} {a : Act} {Q : Exit → Act → World → Prop} {W : World}
/-- append(row, numbers...) at a plain region's list. -/
theorem app_ints (hgd : o.guard = none) (s x : Operand) (ho : o.op = .call { callee := .builtin .append, args := #[s, x], argTypes := #[23, 23] }) (w0 : World) (base : Nat) (v : Value) (xs ys : List Int) (A : Option Addr) (m c : Nat)
    (hs : a.eval s = v) (hx : a.eval x = .slice A m c) (HO : RowI W base v xs) (HC : Kd.C (Kd.int .i64) W A m ys) (HB : Below base w0 W) (hbase : base ≤ W.heap.size) (hl : xs.length + m ≤ 1000000)
    (h : ∀ v1 w1, RowI w1 base v1 (xs ++ ys) → Below base w0 w1 → W.grownBy w1 v.ownBlock → (v1.ownBlock = v.ownBlock ∨ ∃ b, v1.ownBlock = some b ∧ W.heap.size ≤ b) → wpList Try.prog ops Q rest (a.put o.dst v1) w1) : wpList Try.prog ops Q (o :: rest) a W :=
  Kd.R_append_rows (Kd.int .i64) (Rr := (Kd.int .i64).K W) (w0 := w0) base hgd s x 23 3 _ 8 ho Try.underlying23 info3 rfl (by decide) (by decide) v xs ys A m c (fun _ => True) (fun _ => False) hs hx (rowI_R HO) HC (fun _ _ hk => hk) (fun _ h => h.elim) (fun _ _ => trivial) HB hbase (by omega)
    fun v1 w1 hr hb hg hat => h v1 w1 (R_rowI hr) hb hg hat
end
def CloneP (l : List Int) (w : World) (e : Ending) (w' : World) : Prop := ∃ v, e = .returned v ∧ RowI w' w.heap.size v l ∧ Below w.heap.size w w'
theorem empty_row (w : World) (t : TypeId) (size : Nat) : (w.alloc (.cells #[] t)).ownsRow w.heap.size t size (.slice (some ⟨w.heap.size, 0, none⟩) 0 0) 0 [] := ⟨by simp, .inr ⟨w.heap.size, 0, #[], rfl, Nat.le_refl _, heap_alloc_new w _, Nat.le_refl _, Nat.zero_le _, by simp, by simp⟩⟩
set_option maxRecDepth 100000 in
set_option maxHeartbeats 4000000 in
theorem clone_calls (A : Option Addr) (c : Nat) (l : List Int) (w : World) (hC : CI w A l) (hm : l.length ≤ 100000) : Calls Try.prog 17 #[.slice A l.length c] w (CloneP l w) := by
  have qT : ∀ (w : World) (a : Option Addr) (n c n' c' : Nat), (binOp .eql 23 (.slice a n c) (.slice none n' c')).run Try.prog w = .ok (.bool a.isNone) w := fun w a n c n' c' => Go.Lib.run_eql_slice_nil w _ _ a n c n' c' Try.underlying23
  have HC := Aside0.mk hC
  clear hC
  cases A with
  | none =>
    obtain rfl := nil_of_none HC.out
    go_enter Try.func17, Try.ntmps17
    go_wp2
    go_ret
    exact ⟨_, rfl, World.ownsRow_nil _ _ _ _, Below.refl _ _⟩
  | some ad =>
    have hB := (Below.refl w.heap.size w).alloc (Nat.le_refl _) (.cells #[] 3)
    have HE : Aside0 (RowI (w.alloc (.cells #[] 3)) w.heap.size (.slice (some ⟨w.heap.size, 0, none⟩) 0 0) []) := ⟨empty_row w 3 1⟩
    have HB := Aside0.mk hB
    clear hB
    go_enter Try.func17, Try.ntmps17
    go_wp2_with (at_builtin; refine hold ?_)
    refine ⟨?_⟩
    refine app_ints rfl _ _ rfl w w.heap.size _ [] l (some ad) l.length c rfl rfl HE.out (Kd.C_below HC.out HB.out) HB.out HB.out.size (by simp; omega) ?_
    intro v1 w1 hr hb _ _
    rw [List.nil_append] at hr
    have HP : Aside0 (CloneP l w (.returned v1) w1) := ⟨⟨v1, rfl, hr, hb⟩⟩
    clear hr hb
    go_wp2
    go_ret
    exact HP.out
def CloneRP (l : List (List Int)) (w : World) (e : Ending) (w' : World) : Prop := ∃ v us, e = .returned v ∧ RowR w' w.heap.size v us l ∧ Below w.heap.size w w'
set_option maxRecDepth 100000 in
set_option maxHeartbeats 4000000 in
theorem cloneR_calls (A : Option Addr) (c : Nat) (l : List (List Int)) (w : World) (hC : CR w A l) (hm : l.length ≤ 100000) : Calls Try.prog 57 #[.slice A l.length c] w (CloneRP l w) := by
  have qT : ∀ (w : World) (a : Option Addr) (n c n' c' : Nat), (binOp .eql 24 (.slice a n c) (.slice none n' c')).run Try.prog w = .ok (.bool a.isNone) w := fun w a n c n' c' => Go.Lib.run_eql_slice_nil w _ _ a n c n' c' Try.underlying24
  have HC := Aside0.mk hC
  clear hC
  obtain ⟨i0, hi, hz0, hz1, hz2⟩ := info_parts info23
  cases A with
  | none =>
    obtain rfl := nil_of_none HC.out
    go_enter Try.func57, Try.ntmps57
    go_wp2
    go_ret
    exact ⟨_, [], rfl, ⟨World.ownsRow_nil _ _ _ _, fun j x u hx => by simp at hx⟩, Below.refl _ _⟩
  | some ad =>
    have hB := (Below.refl w.heap.size w).alloc (Nat.le_refl _) (.cells #[] 23)
    have HE := Aside0.mk (empty_row w 23 1)
    have HB := Aside0.mk hB
    obtain ⟨us, hul, hc, hk⟩ := CR_cells (Kd.C_below HC.out hB)
    have HUL := Aside0.mk hul
    have HUC := Aside0.mk hc
    have HUK := Aside0.mk hk
    clear hB hul hc hk
    go_enter Try.func57, Try.ntmps57
    go_wp2_with (at_builtin; refine hold ?_)
    refine ⟨?_⟩
    refine wpList_append_own _ rfl _ _ 24 rfl w.heap.size 23 i0 _ 1 24 Try.underlying24 hi hz0 hz1 hz2 rfl (by decide) _ 0 [] rfl HE.out ad l.length c us rfl (by rw [HUL.out, Nat.mul_one]) (fun j u hu => (HUC.out j u hu).1) (fun u hu => by obtain ⟨j, hj⟩ := List.mem_iff_getElem?.1 hu; exact (HUC.out j u hj).2) (Nat.le_trans (show 0 + l.length ≤ 100001 by omega) (by decide)) (by omega) HB.out.size ?_
    intro v1 w1 hown hgrow _
    rw [List.nil_append, Nat.zero_add] at hown
    have hb2 := HB.out.grown hgrow HB.out.size (fun k hk => by
      have hk2 : some w.heap.size = some k := hk
      injection hk2 with hk2
      omega)
    have hg : Below (w.alloc (.cells #[] 23)).heap.size (w.alloc (.cells #[] 23)) w1 ∨ True := .inr trivial
    have HP : Aside0 (CloneRP l w (.returned v1) w1) := ⟨⟨v1, us, rfl, ⟨hown, fun j x u hx hu => by
      obtain ⟨ad', A, c', e, h1, h2, h3⟩ := at_L3 HC.out (j : Int) (by omega) (by have := (List.getElem?_eq_some_iff.1 hx).1; omega)
      injection e with e
      subst e
      obtain ⟨A2, c2, e2, h4, h5⟩ := HUK.out j x u hx hu
      rw [Int.toNat_natCast] at h1
      have hc2 := (HUC.out j u hu).1
      have h6 := pw_cell_below HB.out h1
      rw [hc2] at h6
      have e3 : rd_L3 l (j : Int) = x := by unfold rd_L3; rw [Int.toNat_natCast, List.getD_eq_getElem?_getD, hx]; rfl
      rw [e3] at h2 h3 h6
      rw [Option.some.inj h6]
      exact ⟨A, c', rfl, h2, Kd.C_below h3 hb2⟩⟩, hb2⟩⟩
    clear hown hgrow hb2 hg
    go_wp2
    go_ret
    exact HP.out
end Go.Proofs.Ythnimpbcfegmjaa.Own
/-
  slices' Grow, Concat and Clip over whole numbers, and sched.Right, walked by hand.
-/
namespace Go.Proofs.Ythnimpbcfegmjaa.Own
open Go.RowKit Go.Proofs.YthnimpbcfegmjaaW.PrintWords Go.Proofs.YthnimpbcfegmjaaW.PrintLast Go.Proofs.YthnimpbcfegmjaaW.PrintMore Go.Proofs.Ythnimpbcfegmjaa.P Go.Proofs.Ythnimpbcfegmjaa.Model
set_option linter.unusedVariables false

def GrowP (w : World) (e : Ending) (w' : World) : Prop := ∃ v, e = .returned v ∧ RowI w' w.heap.size v [] ∧ Below w.heap.size w w'
set_option maxRecDepth 100000 in
set_option maxHeartbeats 4000000 in
theorem grow_calls (n : Nat) (w : World) (hn : n ≤ 100000) : Calls Try.prog 55 #[.slice none 0 0, .int .i64 n] w (GrowP w) := by
  by_cases h0 : n = 0
  · subst h0
    have d1 : decide ((0 : Nat) < 0) = false := rfl
    go_enter Try.func55, Try.ntmps55
    go_wp2
    go_ret
    exact ⟨_, rfl, World.ownsRow_nil _ _ _ _, Below.refl _ _⟩
  · obtain ⟨i0, hi, _, _, _⟩ := info_parts info3
    have h1 : (0 : Int) < (n : Int) := by omega
    have d1 : decide ((0 : Int) < (n : Int)) = true := decide_eq_true h1
    have d2 : decide (0 < n) = true := decide_eq_true (by omega)
    have hcut := cut_to (P := Try.prog) 23 3 .i64 Try.underlying23 hi none 0 0 (0 : Int) (by omega) (by omega) (Nat.le_refl _)
    go_enter Try.func55, Try.ntmps55
    go_wp2_with (at_builtin; refine hold ?_)
    refine ⟨?_⟩
    refine Kd.R_append_zeros (Kd.int .i64) (w0 := w) w.heap.size rfl _ _ 23 3 3 _ 8 rfl Try.underlying23 Try.underlying3 info3 rfl (by decide) (by decide) (.slice none 0 0) [] (0 : Int) (n : Int) (fun _ => True) rfl rfl rfl (fun _ _ => trivial) (Kd.R_nil _ _ _ _ _) (by omega) (Below.refl _ _) (Nat.le_refl _) (by simp; omega) ?_
    intro v1 w1 hr hb _ _
    obtain ⟨A, c, rfl⟩ := Kd.R_slice hr
    rw [List.nil_append, List.length_replicate, Int.toNat_natCast] at hr
    have ht := Kd.R_take (m := 0) hr (Nat.zero_le _)
    have hroom : n ≤ c := (Kd.R_reads' hr).2.1
    rw [List.nil_append, List.length_replicate, Int.toNat_natCast]
    have hcut2 := cut_to (P := Try.prog) 23 3 .i64 Try.underlying23 hi A n c (0 : Int) (by omega) (by omega) hroom
    have HP : Aside0 (GrowP w (.returned (.slice A 0 c)) w1) := ⟨⟨_, rfl, R_rowI (xs := []) ht, hb⟩⟩
    clear hr hb ht hroom
    go_wp2
    go_ret
    exact HP.out
def CatP (l : List (List Int)) (w : World) (e : Ending) (w' : World) : Prop := ∃ v, e = .returned v ∧ RowI w' w.heap.size v l.flatten ∧ Below w.heap.size w w'
theorem flatten_take_le (l : List (List Int)) (k : Nat) : (l.take k).flatten.length ≤ l.flatten.length := by
  have h := congrArg List.flatten (List.take_append_drop k l)
  rw [List.flatten_append] at h
  have h2 := congrArg List.length h
  rw [List.length_append] at h2
  omega
theorem flatten_snoc {l : List (List Int)} {k : Nat} {x : List Int} (h : l[k]? = some x) : (l.take (k + 1)).flatten = (l.take k).flatten ++ x := by rw [take_snoc h]; simp
theorem rdL {l : List (List Int)} {i : Nat} {x : List Int} (h : l[i]? = some x) : rd_L3 l (i : Int) = x := by unfold rd_L3; rw [Int.toNat_natCast, List.getD_eq_getElem?_getD, h]; rfl
set_option maxRecDepth 100000 in
set_option maxHeartbeats 4000000 in
theorem concat_calls (A : Option Addr) (c : Nat) (l : List (List Int)) (w : World) (hC : CR w A l) (hm : l.flatten.length ≤ 1000) (hl : l.length ≤ 1000) : Calls Try.prog 29 #[.slice A l.length c] w (CatP l w) := by
  have HC := Aside0.mk hC
  have HM := Aside0.mk hm
  clear hC hm
  go_enter Try.func29, Try.ntmps29
  go_wp2
  go_loop [3, 11] (fun v3 v11 => ∃ (k n : Nat), k ≤ l.length ∧ n ≤ 1000 ∧ v11 = .int .i64 k ∧ v3 = .int .i64 n ∧ Aside0 (n = (l.take k).flatten.length)) (fun _ v11 => l.length - (intOf v11).toNat)
  case atStart => exact ⟨0, 0, Nat.zero_le _, by omega, rfl, rfl, ⟨rfl⟩⟩
  case round => as_aux_lemma =>
    obtain ⟨k, n, hk, hn, rfl, rfl, HN⟩ := hrel
    by_cases hlt : k < l.length
    · obtain ⟨x, hx⟩ : ∃ x, l[k]? = some x := ⟨_, List.getElem?_eq_getElem hlt⟩
      obtain ⟨ad, A1, c1, rfl, h1, _, _⟩ := at_L3 HC.out (k : Int) (by omega) (by omega)
      rw [rdL hx, Int.toNat_natCast] at h1
      have hs := flatten_snoc hx
      have hle := flatten_take_le l (k + 1)
      rw [hs, List.length_append] at hle
      have hx1 : n + x.length ≤ 1000 := by have := HM.out; have := HN.out; omega
      have dn : decide ((n : Int) + (x.length : Int) < 0) = false := decide_eq_false (by omega)
      have HS := Aside0.mk hs
      clear hs hle hx
      go_wp2
      go_round
      case rel => exact ⟨k + 1, n + x.length, hlt, hx1, by go_num, by go_num, ⟨by rw [HS.out, List.length_append, HN.out]⟩⟩
      case measure => simp [intOf]; omega
    · obtain rfl : k = l.length := by omega
      clear HN
      go_wp2_with (go_at_call 55; refine (grow_calls n _ (by omega)).mono ?_; rintro e w1 ⟨v, rfl, hr, hb⟩; have HR := Aside0.mk hr; have HB := Aside0.mk hb; clear hr hb)
      go_loopw [6, 27] (fun v6 v27 W => ∃ k : Nat, k ≤ l.length ∧ v27 = .int .i64 k ∧ Aside0 (RowI W w.heap.size v6 (l.take k).flatten) ∧ Aside0 (Below w.heap.size w W)) (fun _ v27 _ => l.length - (intOf v27).toNat)
      case atStart => exact ⟨0, Nat.zero_le _, rfl, HR, HB⟩
      case round =>
        clear HR HB
        obtain ⟨k, hk, rfl, HR, HB⟩ := hrel
        by_cases hlt2 : k < l.length
        · obtain ⟨x, hx⟩ : ∃ x, l[k]? = some x := ⟨_, List.getElem?_eq_getElem hlt2⟩
          obtain ⟨ad, A1, c1, rfl, h1, h2, h3⟩ := at_L3 (Kd.C_below HC.out HB.out) (k : Int) (by omega) (by omega)
          rw [rdL hx] at h1 h2 h3
          rw [Int.toNat_natCast] at h1
          have HX := Aside0.mk h3
          have HS := Aside0.mk (flatten_snoc hx)
          have hle := flatten_take_le l (k + 1)
          rw [HS.out, List.length_append] at hle
          have hle2 : (l.take k).flatten.length + x.length ≤ 1000000 := by have := HM.out; omega
          have HLE := Aside0.mk hle2
          clear h3 hx hle hle2
          go_wp2_with (at_builtin; refine hold ?_)
          refine ⟨?_⟩
          refine app_ints rfl _ _ rfl w w.heap.size _ _ x A1 x.length c1 rfl rfl HR.out HX.out HB.out HB.out.size HLE.out ?_
          intro v1 w2 hr hb _ _
          rw [← HS.out] at hr
          have HR2 := Aside0.mk hr
          have HB2 := Aside0.mk hb
          clear hr hb
          go_wp2
          go_roundw
          case rel => exact ⟨k + 1, hlt2, by go_num, HR2, HB2⟩
          case measure => simp [intOf]; omega
        · obtain rfl : k = l.length := by omega
          go_wp2
          go_ret
          exact ⟨_, rfl, by rw [← List.take_length (l := l)]; exact HR.out, HB.out⟩
theorem clip_calls (A : Option Addr) (n c : Nat) (w : World) (hn : n ≤ c) (hm : n ≤ 100000) : Calls Try.prog 70 #[.slice A n c] w fun e w' => e = .returned (.slice A n n) ∧ w = w' := by
  go_enter Try.func70, Try.ntmps70
  go_wp2
  go_ret
  exact ⟨rfl, rfl⟩
end Go.Proofs.Ythnimpbcfegmjaa.Own
/-
  sched.Right, walked by hand: whether a system may be.
-/
namespace Go.Proofs.Ythnimpbcfegmjaa.Own
open Go.RowKit Go.Proofs.YthnimpbcfegmjaaW.PrintWords Go.Proofs.YthnimpbcfegmjaaW.PrintLast Go.Proofs.YthnimpbcfegmjaaW.PrintMore Go.Proofs.Ythnimpbcfegmjaa.P Go.Proofs.Ythnimpbcfegmjaa.Model
set_option linter.unusedVariables false

/-- Where a system's slices lie. -/
structure Ad where
  a0 : Option Addr
  c0 : Nat
  a1 : Option Addr
  c1 : Nat
  a2 : Option Addr
  c2 : Nat
  a3 : Option Addr
  c3 : Nat
  a4 : Option Addr
  c4 : Nat
  a5 : Option Addr
  c5 : Nat
def Ad.none : Ad := ⟨Option.none, 0, Option.none, 0, Option.none, 0, Option.none, 0, Option.none, 0, Option.none, 0⟩
def sysA (s : Syst) (p : Ad) : Array Value := #[.slice p.a0 s.th.length p.c0, .slice p.a1 s.at_.length p.c1, .slice p.a2 s.su.length p.c2, .slice p.a3 s.lo.length p.c3, .slice p.a4 s.ce.length p.c4, .slice p.a5 s.ch.length p.c5]
/-- A system that is read. -/
structure SysC (w : World) (s : Syst) (p : Ad) : Prop where
  r0 : CT w p.a0 s.th
  h0 : s.th.length ≤ p.c0
  r1 : CI w p.a1 s.at_
  h1 : s.at_.length ≤ p.c1
  r2 : CI w p.a2 s.su
  h2 : s.su.length ≤ p.c2
  r3 : CI w p.a3 s.lo
  h3 : s.lo.length ≤ p.c3
  r4 : CI w p.a4 s.ce
  h4 : s.ce.length ≤ p.c4
  r5 : CR w p.a5 s.ch
  h5 : s.ch.length ≤ p.c5
theorem SysC.below {w w1 : World} {s : Syst} {p : Ad} (h : SysC w s p) (hb : Below w.heap.size w w1) : SysC w1 s p :=
  ⟨Kd.C_below h.r0 hb, h.h0, Kd.C_below h.r1 hb, h.h1, Kd.C_below h.r2 hb, h.h2, Kd.C_below h.r3 hb, h.h3, Kd.C_below h.r4 hb, h.h4, Kd.C_below h.r5 hb, h.h5⟩
/-- Not too great. -/
structure Bd (s : Syst) : Prop where
  n0 : s.th.length ≤ 100
  n1 : s.at_.length ≤ 100
  n2 : s.su.length ≤ 100
  n3 : s.lo.length ≤ 100
  n4 : s.ce.length ≤ 100
  n5 : s.ch.length ≤ 100
  t : ∀ l : List S44, l ∈ s.th → l.length ≤ 100
  c : ∀ l : List Int, l ∈ s.ch → l.length ≤ 100
theorem rdT {l : List (List S44)} {i : Nat} {x : List S44} (h : l[i]? = some x) : rd_L2 l (i : Int) = x := by unfold rd_L2; rw [Int.toNat_natCast, List.getD_eq_getElem?_getD, h]; rfl
theorem numB_eq (s : Syst) : numB s = ((s.su ++ s.ce) ++ s.ch.flatten).all smB := rfl
/-- The first so many threads may be. -/
def thsTo (s : Syst) (k : Nat) : Bool := ((s.th.zip s.at_).take k).all (fun p => thB p.1 p.2)
theorem thsTo_succ {s : Syst} {k : Nat} {l : List S44} {a : Int} (hl : s.th[k]? = some l) (ha : s.at_[k]? = some a) : thsTo s (k + 1) = (thsTo s k && thB l a) := by
  unfold thsTo
  have h : (s.th.zip s.at_)[k]? = some (l, a) := by rw [List.getElem?_zip_eq_some]; exact ⟨hl, ha⟩
  rw [take_snoc h, List.all_append]
  simp
theorem thsTo_bad {s : Syst} {k : Nat} {l : List S44} {a : Int} (hl : s.th[k]? = some l) (ha : s.at_[k]? = some a) (hb : thB l a = false) : thsB s = false := by
  have h : (s.th.zip s.at_)[k]? = some (l, a) := by rw [List.getElem?_zip_eq_some]; exact ⟨hl, ha⟩
  exact List.all_eq_false.mpr ⟨(l, a), List.mem_of_getElem? h, by simpa using hb⟩
theorem flat_two (l m : List Int) : [l, m].flatten = l ++ m := by simp
/-- A slice of two slices, just built. -/
theorem two_CR {w : World} {g : Nat} {A B : Option Addr} {c d : Nat} {l m : List Int} (hb : w.heap[g]? = some (.cells #[.slice A l.length c, .slice B m.length d] 23 (0, 0))) (hA : CI w A l) (hc : l.length ≤ c) (hB : CI w B m) (hd : m.length ≤ d) : CR w (some ⟨g, 0, none⟩) [l, m] := by
  refine ⟨rfl, by simp, fun _ => ⟨_, rfl, fun j p hj => ?_⟩⟩
  match j, hj with
  | 0, hj =>
    obtain rfl : l = p := by simpa using hj
    refine ⟨[.slice A l.length c], rfl, ⟨A, c, rfl, hc, hA⟩, fun i u hu => ?_⟩
    match i, hu with
    | 0, hu => rw [add_plain, blk_cell hb]; exact hu
  | 1, hj =>
    obtain rfl : m = p := by simpa using hj
    refine ⟨[.slice B m.length d], rfl, ⟨B, d, rfl, hd, hB⟩, fun i u hu => ?_⟩
    match i, hu with
    | 0, hu => rw [add_plain, blk_cell hb]; exact hu
  | j + 2, hj => simp at hj
theorem len_flat2 (l : List (List Int)) (h : ∀ x, x ∈ l → x.length ≤ 2) : l.flatten.length ≤ 2 * l.length := by
  induction l with
  | nil => simp
  | cons x l ih =>
    have h1 := ih fun y hy => h y (List.mem_cons_of_mem _ hy)
    have h2 := h x (List.mem_cons_self)
    rw [List.flatten_cons, List.length_append, List.length_cons]
    omega
set_option maxRecDepth 100000 in
set_option maxHeartbeats 16000000 in
theorem right_calls (s : Syst) (p : Ad) (w : World) (hC : SysC w s p) (hbd : Bd s) : Calls Try.prog 20 #[.agg (sysA s p)] w fun e w' => e = .returned (.bool (rightB s)) ∧ Below w.heap.size w w' := by
  have HC := Aside0.mk hC
  have HBD := Aside0.mk hbd
  have HB0 : Aside0 (Below w.heap.size w (w.alloc (.cells (sysA s p) 26))) := ⟨(Below.refl _ _).alloc (Nat.le_refl _) _⟩
  have n0 := hbd.n0
  have n1 := hbd.n1
  have n2 := hbd.n2
  have n3 := hbd.n3
  have n4 := hbd.n4
  have n5 := hbd.n5
  clear hC hbd
  obtain ⟨a0, c0, a1, c1, a2, c2, a3, c3, a4, c4, a5, c5⟩ := p
  unfold sysA at *
  dsimp only at *
  by_cases k0 : s.th.length ≤ 8
  case neg =>
    have hR : rightB s = false := by unfold rightB lenB; simp [k0]
    have d0 : decide ((8 : Int) < (s.th.length : Int)) = true := decide_eq_true (by omega)
    rw [hR]
    clear hR k0
    go_enter Try.func20, Try.ntmps20
    go_wp2
    go_ret
    exact ⟨rfl, HB0.out⟩
  have d0 : decide ((8 : Int) < (s.th.length : Int)) = false := decide_eq_false (by omega)
  have K0 := Aside0.mk k0
  clear k0
  by_cases k1 : s.at_.length = s.th.length
  case neg =>
    have hR : rightB s = false := by unfold rightB lenB; simp [k1]
    have d1 : ((s.at_.length : Int) != (s.th.length : Int)) = true := bne_iff_ne.mpr (by omega)
    rw [hR]
    clear hR k1
    go_enter Try.func20, Try.ntmps20
    go_wp2
    go_ret
    exact ⟨rfl, HB0.out⟩
  have d1 : ((s.at_.length : Int) != (s.th.length : Int)) = false := bne_eq_false_iff_eq.mpr (by omega)
  have K1 := Aside0.mk k1
  clear k1
  by_cases k2 : s.su.length = s.th.length
  case neg =>
    have hR : rightB s = false := by unfold rightB lenB; simp [k2]
    have d2 : ((s.su.length : Int) != (s.th.length : Int)) = true := bne_iff_ne.mpr (by omega)
    rw [hR]
    clear hR k2
    go_enter Try.func20, Try.ntmps20
    go_wp2
    go_ret
    exact ⟨rfl, HB0.out⟩
  have d2 : ((s.su.length : Int) != (s.th.length : Int)) = false := bne_eq_false_iff_eq.mpr (by omega)
  have K2 := Aside0.mk k2
  clear k2
  by_cases k3 : s.lo.length = 4
  case neg =>
    have hR : rightB s = false := by unfold rightB lenB; simp [k3]
    have d3 : ((s.lo.length : Int) != 4) = true := bne_iff_ne.mpr (by omega)
    rw [hR]
    clear hR k3
    go_enter Try.func20, Try.ntmps20
    go_wp2
    go_ret
    exact ⟨rfl, HB0.out⟩
  have d3 : ((s.lo.length : Int) != 4) = false := bne_eq_false_iff_eq.mpr (by omega)
  have K3 := Aside0.mk k3
  clear k3
  by_cases k4 : s.ce.length = 4
  case neg =>
    have hR : rightB s = false := by unfold rightB lenB; simp [k4]
    have d4 : ((s.ce.length : Int) != 4) = true := bne_iff_ne.mpr (by omega)
    rw [hR]
    clear hR k4
    go_enter Try.func20, Try.ntmps20
    go_wp2
    go_ret
    exact ⟨rfl, HB0.out⟩
  have d4 : ((s.ce.length : Int) != 4) = false := bne_eq_false_iff_eq.mpr (by omega)
  have K4 := Aside0.mk k4
  clear k4
  by_cases k5 : s.ch.length = 4
  case neg =>
    have hR : rightB s = false := by unfold rightB lenB; simp [k5]
    have d5 : ((s.ch.length : Int) != 4) = true := bne_iff_ne.mpr (by omega)
    rw [hR]
    clear hR k5
    go_enter Try.func20, Try.ntmps20
    go_wp2
    go_ret
    exact ⟨rfl, HB0.out⟩
  have d5 : ((s.ch.length : Int) != 4) = false := bne_eq_false_iff_eq.mpr (by omega)
  have K5 := Aside0.mk k5
  clear k5
  have hR : rightB s = (thsB s && (loB s && (chB s && numB s))) := by unfold rightB lenB; simp [K0.out, K1.out, K2.out, K3.out, K4.out, K5.out]
  rw [hR]
  clear hR
  go_enter Try.func20, Try.ntmps20
  go_wp2
  have HD0 : Aside0 (Below (w.alloc (.cells #[.slice a0 s.th.length c0, .slice a1 s.at_.length c1, .slice a2 s.su.length c2, .slice a3 s.lo.length c3, .slice a4 s.ce.length c4, .slice a5 s.ch.length c5] 26)).heap.size (w.alloc (.cells #[.slice a0 s.th.length c0, .slice a1 s.at_.length c1, .slice a2 s.su.length c2, .slice a3 s.lo.length c3, .slice a4 s.ce.length c4, .slice a5 s.ch.length c5] 26)) (w.alloc (.cells #[.slice a0 s.th.length c0, .slice a1 s.at_.length c1, .slice a2 s.su.length c2, .slice a3 s.lo.length c3, .slice a4 s.ce.length c4, .slice a5 s.ch.length c5] 26))) := ⟨Below.refl _ _⟩
  have HG := Aside0.mk (blk_new w (.cells #[.slice a0 s.th.length c0, .slice a1 s.at_.length c1, .slice a2 s.su.length c2, .slice a3 s.lo.length c3, .slice a4 s.ce.length c4, .slice a5 s.ch.length c5] 26))
  generalize w.alloc (.cells #[.slice a0 s.th.length c0, .slice a1 s.at_.length c1, .slice a2 s.su.length c2, .slice a3 s.lo.length c3, .slice a4 s.ce.length c4, .slice a5 s.ch.length c5] 26) = w1 at *
  clear d0 d1 d2 d3 d4 d5
  go_loopw [51] (fun v51 W => ∃ k : Nat, k ≤ s.th.length ∧ v51 = .int .i64 k ∧ Aside0 (thsTo s k = true) ∧ Aside0 (Below w1.heap.size w1 W)) (fun v51 _ => s.th.length - (intOf v51).toNat)
  case atStart => exact ⟨0, Nat.zero_le _, rfl, ⟨rfl⟩, HD0⟩
  case round => as_aux_lemma =>
    clear HD0
    obtain ⟨k, hk, rfl, HT, HD⟩ := hrel
    have hg := blk_below HG.out HD.out
    have q1 : wr.cell? ⟨w.heap.size, 1, none⟩ = some (.slice a1 s.at_.length c1) := blk_cell hg 1
    have q3 : wr.cell? ⟨w.heap.size, 3, none⟩ = some (.slice a3 s.lo.length c3) := blk_cell hg 3
    by_cases hlt : k < s.th.length
    · obtain ⟨l, hl⟩ : ∃ l, s.th[k]? = some l := ⟨_, List.getElem?_eq_getElem hlt⟩
      have hk1 : k < s.at_.length := by have := K1.out; omega
      obtain ⟨a, ha⟩ : ∃ a, s.at_[k]? = some a := ⟨_, List.getElem?_eq_getElem hk1⟩
      have hCw := HC.out.below (HB0.out.trans (HD.out.mono HB0.out.size))
      obtain ⟨ad, A1, cc, e0, t0, t1, t2⟩ := at_L2 hCw.r0 (k : Int) (by omega) (by omega)
      obtain ⟨ad1, e1, t3⟩ := Kd.at_int hCw.r1 (k : Int) (by omega) (by omega)
      have e0' : a0 = some ad := e0
      have e1' : a1 = some ad1 := e1
      subst e0' e1'
      rw [rdT hl] at t0 t1 t2
      rw [rdI ha] at t3
      rw [Int.toNat_natCast] at t0 t3
      have HL := Aside0.mk hl
      have HA := Aside0.mk ha
      have HCL := Aside0.mk t2
      have HTS := Aside0.mk (thsTo_succ hl ha)
      have hl100 : l.length ≤ 100 := HBD.out.t l (List.mem_of_getElem? hl)
      clear hCw t1 t2 hl ha hg e0 e1
      by_cases h16 : l.length ≤ 16
      · have d0 : decide ((16 : Int) < (l.length : Int)) = false := decide_eq_false (by omega)
        cases hin : inB a 0 l.length with
        | false =>
          have HIN := Aside0.mk hin
          clear hin
          go_wp2_with (go_at_call 38; refine (in_calls _ _ _ _).mono ?_; rintro e w' ⟨rfl, rfl⟩; rw [HIN.out])
          go_ret
          exact ⟨by rw [thsTo_bad HL.out HA.out (by unfold thB; rw [HIN.out]; simp)]; rfl, HB0.out.trans (HD.out.mono HB0.out.size)⟩
        | true =>
          have HIN := Aside0.mk hin
          clear hin
          cases hal : l.all okI with
          | false =>
            have HAL := Aside0.mk hal
            clear hal
            go_wp2_with (first
              | (go_at_call 38; refine (in_calls _ _ _ _).mono ?_; rintro e w' ⟨rfl, rfl⟩; rw [HIN.out])
              | (go_at_call 39; refine (containsI_calls _ _ l _ HCL.out (by omega)).mono ?_; rintro e w2 ⟨rfl, hb⟩; rw [HAL.out]; have HD2 := Aside0.mk (HD.out.trans (hb.mono HD.out.size)); clear hb))
            go_ret
            exact ⟨by rw [thsTo_bad HL.out HA.out (by unfold thB; rw [HIN.out, HAL.out]; simp)]; rfl, HB0.out.trans (HD2.out.mono HB0.out.size)⟩
          | true =>
            have HAL := Aside0.mk hal
            have HT2 : Aside0 (thsTo s (k + 1) = true) := ⟨by rw [HTS.out, HT.out]; unfold thB; rw [HIN.out, hal]; simp [h16]⟩
            clear hal
            go_wp2_with (first
              | (go_at_call 38; refine (in_calls _ _ _ _).mono ?_; rintro e w' ⟨rfl, rfl⟩; rw [HIN.out])
              | (go_at_call 39; refine (containsI_calls _ _ l _ HCL.out (by omega)).mono ?_; rintro e w2 ⟨rfl, hb⟩; rw [HAL.out]; have HD2 := Aside0.mk (HD.out.trans (hb.mono HD.out.size)); clear hb))
            go_roundw
            case rel => exact ⟨k + 1, hlt, by go_num, HT2, HD2⟩
            case measure => simp [intOf]; omega
      · have d0 : decide ((16 : Int) < (l.length : Int)) = true := decide_eq_true (by omega)
        have HN16 := Aside0.mk h16
        clear h16
        go_wp2
        go_ret
        exact ⟨by rw [thsTo_bad HL.out HA.out (by unfold thB; simp [HN16.out])]; rfl, HB0.out.trans (HD.out.mono HB0.out.size)⟩
    · obtain rfl : k = s.th.length := by omega
      have HTH : Aside0 (thsB s = true) := ⟨by
        have h1 := HT.out
        unfold thsTo at h1
        rw [List.take_of_length_le (by rw [List.length_zip]; omega)] at h1
        exact h1⟩
      clear HT
      go_wp2
      go_loopw [78] (fun v78 W => ∃ k : Nat, k ≤ s.lo.length ∧ v78 = .int .i64 k ∧ W = wr ∧ Aside0 ((s.lo.take k).all (fun x => inB x (-1) ((s.th.length : Int) - 1)) = true)) (fun v78 _ => s.lo.length - (intOf v78).toNat)
      case atStart => exact ⟨0, Nat.zero_le _, rfl, rfl, ⟨rfl⟩⟩
      case round => as_aux_lemma =>
        obtain ⟨k, hk, rfl, rfl, HA⟩ := hrel
        by_cases hlt : k < s.lo.length
        · obtain ⟨x, hx⟩ : ∃ x, s.lo[k]? = some x := ⟨_, List.getElem?_eq_getElem hlt⟩
          have hCw := HC.out.below (HB0.out.trans (HD.out.mono HB0.out.size))
          obtain ⟨ad, e3, t0⟩ := Kd.at_int hCw.r3 (k : Int) (by omega) (by omega)
          have e3' : a3 = some ad := e3
          subst e3'
          rw [rdI hx, Int.toNat_natCast] at t0
          have HX := Aside0.mk hx
          clear hCw hx e3
          cases hin : inB x (-1) ((s.th.length : Int) - 1) with
          | false =>
            have HIN := Aside0.mk hin
            clear hin
            go_wp2_with (go_at_call 38; refine (in_calls _ _ _ _).mono ?_; rintro e w' ⟨rfl, rfl⟩; rw [HIN.out])
            go_ret
            have hlo : loB s = false := List.all_eq_false.mpr ⟨x, List.mem_of_getElem? HX.out, by rw [HIN.out]; simp⟩
            exact ⟨by rw [HTH.out, hlo]; rfl, HB0.out.trans (HD.out.mono HB0.out.size)⟩
          | true =>
            have HU : Aside0 ((s.lo.take (k + 1)).all (fun x => inB x (-1) ((s.th.length : Int) - 1)) = true) := ⟨by rw [take_snoc HX.out, List.all_append, HA.out]; simp [hin]⟩
            have HIN := Aside0.mk hin
            clear hin
            go_wp2_with (go_at_call 38; refine (in_calls _ _ _ _).mono ?_; rintro e w' ⟨rfl, rfl⟩; rw [HIN.out])
            go_roundw
            case rel => exact ⟨k + 1, hlt, by go_num, by first | trivial | rfl, HU⟩
            case measure => simp [intOf]; omega
        · obtain rfl : k = s.lo.length := by omega
          have HLO : Aside0 (loB s = true) := ⟨by have h1 := HA.out; rw [List.take_length] at h1; exact h1⟩
          clear HA
          have hg := blk_below HG.out HD.out
          have q2 : wr.cell? ⟨w.heap.size, 2, none⟩ = some (.slice a2 s.su.length c2) := blk_cell hg 2
          have q4 : wr.cell? ⟨w.heap.size, 4, none⟩ = some (.slice a4 s.ce.length c4) := blk_cell hg 4
          have HCw := Aside0.mk (HC.out.below (HB0.out.trans (HD.out.mono HB0.out.size)))
          have HDA : Aside0 (Below w.heap.size w (wr.alloc (.cells #[.slice a2 s.su.length c2, .slice a4 s.ce.length c4] 23))) := ⟨(HB0.out.trans (HD.out.mono HB0.out.size)).alloc (HB0.out.trans (HD.out.mono HB0.out.size)).size _⟩
          have HTW : Aside0 (CR (wr.alloc (.cells #[.slice a2 s.su.length c2, .slice a4 s.ce.length c4] 23)) (some ⟨wr.heap.size, 0, none⟩) [s.su, s.ce]) := ⟨two_CR (blk_new wr _) (Kd.C_below HCw.out.r2 ((Below.refl _ _).alloc (Nat.le_refl _) _)) HCw.out.h2 (Kd.C_below HCw.out.r4 ((Below.refl _ _).alloc (Nat.le_refl _) _)) HCw.out.h4⟩
          have hHG2 := blk_below hg ((Below.refl wr.heap.size wr).alloc (Nat.le_refl _) (.cells #[.slice a2 s.su.length c2, .slice a4 s.ce.length c4] 23))
          have HG2 := Aside0.mk hHG2
          clear hg HG hHG2
          go_wp2_with (go_at_call 29; refine (concat_calls (some ⟨wr.heap.size, 0, none⟩) 2 [s.su, s.ce] _ HTW.out (by simp; omega) (by simp)).mono ?_; rintro e w2 ⟨v, rfl, hr, hb⟩; rw [flat_two] at hr; have q5 : w2.cell? ⟨w.heap.size, 5, none⟩ = some (.slice a5 s.ch.length c5) := blk_cell (blk_below HG2.out hb) 5; have HRb := Aside0.mk (own_weaken hr HDA.out.size); have HB2 := Aside0.mk (HDA.out.trans (hb.mono HDA.out.size)); clear hr hb)
          clear q5 q2 q4
          go_loopw [8, 97] (fun v8 v97 W => ∃ k : Nat, k ≤ s.ch.length ∧ v97 = .int .i64 k ∧ Aside0 (RowI W w.heap.size v8 ((s.su ++ s.ce) ++ (s.ch.take k).flatten)) ∧ Aside0 (∀ l, l ∈ s.ch.take k → l.length ≤ 2) ∧ Aside0 (Below w.heap.size w W)) (fun _ v97 _ => s.ch.length - (intOf v97).toNat)
          case atStart => exact ⟨0, Nat.zero_le _, rfl, ⟨by rw [List.take_zero, List.flatten_nil, List.append_nil]; exact HRb.out⟩, ⟨by simp⟩, HB2⟩
          case round =>
            clear HRb HB2 HDA HTW HG2 HCw
            obtain ⟨k, hk, rfl, HR, HL, HB⟩ := hrel
            by_cases hlt : k < s.ch.length
            · obtain ⟨x, hx⟩ : ∃ x, s.ch[k]? = some x := ⟨_, List.getElem?_eq_getElem hlt⟩
              obtain ⟨ad, A1, cc, e5, h1, h2, h3⟩ := at_L3 (Kd.C_below HC.out.r5 HB.out) (k : Int) (by omega) (by omega)
              have e5' : a5 = some ad := e5
              subst e5'
              rw [rdL hx] at h1 h2 h3
              rw [Int.toNat_natCast] at h1
              have HX := Aside0.mk hx
              have HX3 := Aside0.mk h3
              clear e5 hx h3
              have hx100 : x.length ≤ 100 := HBD.out.c x (List.mem_of_getElem? HX.out)
              by_cases hx2 : x.length ≤ 2
              · have d0 : decide ((2 : Int) < (x.length : Int)) = false := decide_eq_false (by omega)
                have HX2 := Aside0.mk hx2
                clear hx2
                have hfl := len_flat2 (s.ch.take k) HL.out
                rw [List.length_take] at hfl
                have hle : ((s.su ++ s.ce) ++ (s.ch.take k).flatten).length + x.length ≤ 1000000 := by rw [List.length_append, List.length_append]; omega
                have HLE := Aside0.mk hle
                clear hfl hle
                go_wp2_with (at_builtin; refine hold ?_)
                refine ⟨?_⟩
                refine app_ints rfl _ _ rfl w w.heap.size _ _ x A1 x.length cc rfl rfl HR.out HX3.out HB.out HB.out.size HLE.out ?_
                intro v1 w2 hr hb _ _
                rw [List.append_assoc, ← flatten_snoc HX.out] at hr
                have HR2 := Aside0.mk hr
                have HBB := Aside0.mk hb
                clear hr hb
                go_wp2
                go_roundw
                case rel => exact ⟨k + 1, hlt, by go_num, HR2, ⟨fun l hl => by rw [take_snoc HX.out] at hl; rcases List.mem_append.1 hl with h | h; exact HL.out l h; obtain rfl := List.mem_singleton.1 h; exact HX2.out⟩, HBB⟩
                case measure => simp [intOf]; omega
              · have d0 : decide ((2 : Int) < (x.length : Int)) = true := decide_eq_true (by omega)
                have HX2 := Aside0.mk hx2
                clear hx2
                go_wp2
                go_ret
                have hch : chB s = false := List.all_eq_false.mpr ⟨x, List.mem_of_getElem? HX.out, by simp [HX2.out]⟩
                exact ⟨by rw [HTH.out, HLO.out, hch]; rfl, HB.out⟩
            · obtain rfl : k = s.ch.length := by omega
              have HCH : Aside0 (chB s = true) := ⟨List.all_eq_true.mpr fun l hl => decide_eq_true (HL.out l (by rw [List.take_length]; exact hl))⟩
              have hfl := len_flat2 s.ch (fun l hl => HL.out l (by rw [List.take_length]; exact hl))
              have hr := HR.out
              rw [List.take_length] at hr
              have HNL : Aside0 (((s.su ++ s.ce) ++ s.ch.flatten).length ≤ 100000) := ⟨by rw [List.length_append, List.length_append]; omega⟩
              have HNB : Aside0 (numB s = ((s.su ++ s.ce) ++ s.ch.flatten).all smB) := ⟨numB_eq s⟩
              clear HR hfl
              generalize (s.su ++ s.ce) ++ s.ch.flatten = N9 at hr HNL HNB
              obtain ⟨A9, c9, rfl, _, hc9⟩ := rowI_C hr
              have HC9 := Aside0.mk hc9
              clear hr hc9
              go_wp2_with (go_at_call 42; refine (containsN_calls A9 c9 _ _ HC9.out HNL.out).mono ?_; rintro e w' ⟨rfl, rfl⟩)
              go_ret
              exact ⟨by rw [HTH.out, HLO.out, HCH.out, HNB.out]; simp, HB.out⟩
end Go.Proofs.Ythnimpbcfegmjaa.Own
/-
  A system as an argument: its six slices.
-/
namespace Go.Proofs.Ythnimpbcfegmjaa.P
open Go.RowKit Go.Proofs.YthnimpbcfegmjaaW.PrintWords Go.Proofs.YthnimpbcfegmjaaW.PrintLast Go.Proofs.YthnimpbcfegmjaaW.PrintMore Go.Proofs.Ythnimpbcfegmjaa.Model
structure S26 where
  f0 : List (List S44)
  f1 : List Int
  f2 : List Int
  f3 : List Int
  f4 : List Int
  f5 : List (List Int)
def k26 : Kd S26 := Kd.iso (Kd.pair (Kd.slice 42 (Kd.slice 44 k44)) (Kd.pair (Kd.slice 3 (Kd.int .i64)) (Kd.pair (Kd.slice 3 (Kd.int .i64)) (Kd.pair (Kd.slice 3 (Kd.int .i64)) (Kd.pair (Kd.slice 3 (Kd.int .i64)) (Kd.slice 23 (Kd.slice 3 (Kd.int .i64)))))))) (fun x : S26 => (x.f0, x.f1, x.f2, x.f3, x.f4, x.f5))
def S26.sys (a : S26) : Syst := ⟨a.f0, a.f1, a.f2, a.f3, a.f4, a.f5⟩
theorem k26_sys {w : World} {a : S26} {cs : List Value} (h : k26.K w a cs) : ∃ p : Own.Ad, cs.toArray = Own.sysA a.sys p ∧ Own.SysC w a.sys p := by
  obtain ⟨_, _, rfl, ⟨a0, c0, rfl, l0, h0⟩, ⟨_, _, rfl, ⟨a1, c1, rfl, l1, h1⟩, ⟨_, _, rfl, ⟨a2, c2, rfl, l2, h2⟩, ⟨_, _, rfl, ⟨a3, c3, rfl, l3, h3⟩, ⟨_, _, rfl, ⟨a4, c4, rfl, l4, h4⟩, ⟨a5, c5, rfl, l5, h5⟩⟩⟩⟩⟩⟩ := h
  exact ⟨⟨a0, c0, a1, c1, a2, c2, a3, c3, a4, c4, a5, c5⟩, rfl, ⟨h0, l0, h1, l1, h2, l2, h3, l3, h4, l4, h5, l5⟩⟩
end Go.Proofs.Ythnimpbcfegmjaa.P
/-
  sched.kinds and what stands in it: what an instruction waits for.
-/
namespace Go.Proofs.Ythnimpbcfegmjaa.Own
open Go.RowKit Go.Proofs.YthnimpbcfegmjaaW.PrintWords Go.Proofs.YthnimpbcfegmjaaW.PrintLast Go.Proofs.YthnimpbcfegmjaaW.PrintMore Go.Proofs.Ythnimpbcfegmjaa.P Go.Proofs.Ythnimpbcfegmjaa.Model
set_option linter.unusedVariables false

abbrev fn (n : Nat) : Value := .func (.func n) #[] #[]
abbrev kindsV : Value := .agg #[fn 63, fn 64, fn 65, fn 66, fn 65, fn 67, fn 68, fn 69, fn 71, fn 72]
set_option maxRecDepth 100000 in
set_option maxHeartbeats 4000000 in
theorem kinds_calls (w : World) : Calls Try.prog 58 #[] w fun e w' => e = .returned kindsV ∧ Below w.heap.size w w' := by
  go_enter Try.func58, Try.ntmps58
  go_wp2
  refine bodyPost_ret (v := kindsV) ?_ rfl ⟨rfl, ?_⟩
  · simp [results, go_sem]
  · exact (Below.refl _ _).alloc (Nat.le_refl _) _
theorem getD_of {l : List Int} {k : Nat} {x : Int} (h : l[k]? = some x) (d : Int) : l.getD k d = x := by rw [List.getD_eq_getElem?_getD, h]; rfl
theorem getD_ofL {l : List (List Int)} {k : Nat} {x : List Int} (h : l[k]? = some x) (d : List Int) : l.getD k d = x := by rw [List.getD_eq_getElem?_getD, h]; rfl
/-- An instruction that may be. -/
theorem okI_bounds {i : S44} (h : okI i = true) : 0 ≤ i.f0 ∧ i.f0 ≤ 4 ∧ 0 ≤ i.f1 ∧ i.f1 ≤ 3 ∧ -1000 ≤ i.f2 ∧ i.f2 ≤ 1000 := by
  simp only [okI, inB, Bool.and_eq_true, decide_eq_true_eq] at h
  omega
def Ret (b : Bool) (w : World) (e : Ending) (w' : World) : Prop := e = .returned (.bool b) ∧ Below w.heap.size w w'
set_option maxRecDepth 100000 in
set_option maxHeartbeats 4000000 in
theorem lockFree_calls (s : Syst) (p : Ad) (i : S44) (w : World) (hC : SysC w s p) (hi : okI i = true) (h4 : s.lo.length = 4) : Calls Try.prog 63 #[.agg (sysA s p), iv i] w (Ret (s.lo.getD i.f1.toNat 0 == -1) w) := by
  obtain ⟨_, _, h1, h2, _⟩ := okI_bounds hi
  obtain ⟨k, hk⟩ : ∃ k : Nat, i.f1 = k := ⟨i.f1.toNat, by omega⟩
  have hlt : k < s.lo.length := by omega
  obtain ⟨x, hx⟩ : ∃ x, s.lo[k]? = some x := ⟨_, List.getElem?_eq_getElem hlt⟩
  have hB1 : Below w.heap.size w (w.alloc (.cells (sysA s p) 26)) := (Below.refl _ _).alloc (Nat.le_refl _) _
  have hB2 := hB1.alloc hB1.size (.cells #[.int .i64 i.f0, .int .i64 i.f1, .int .i64 i.f2] 44)
  obtain ⟨ad, e3, t0⟩ := Kd.at_int (hC.below hB2).r3 (k : Int) (by omega) (by omega)
  rw [rdI hx, Int.toNat_natCast] at t0
  have hR : (s.lo.getD i.f1.toNat 0 == -1) = (x == -1) := by rw [hk, Int.toNat_natCast, getD_of hx]
  rw [hR]
  have HB2 := Aside0.mk hB2
  obtain ⟨o, a, n⟩ := i
  dsimp only at *
  subst hk
  obtain ⟨a0, c0, a1, c1, a2, c2, a3, c3, a4, c4, a5, c5⟩ := p
  unfold sysA at *
  dsimp only at *
  subst e3
  clear hR hB1 hB2 hC hx hi h4 h2
  go_enter Try.func63, Try.ntmps63
  go_wp2
  go_ret
  exact ⟨rfl, HB2.out⟩
set_option maxRecDepth 100000 in
set_option maxHeartbeats 4000000 in
theorem hasRoom_calls (s : Syst) (p : Ad) (i : S44) (w : World) (hC : SysC w s p) (hi : okI i = true) (h4 : s.ch.length = 4) : Calls Try.prog 68 #[.agg (sysA s p), iv i] w (Ret (decide ((s.ch.getD i.f1.toNat []).length < 2)) w) := by
  obtain ⟨_, _, h1, h2, _⟩ := okI_bounds hi
  obtain ⟨k, hk⟩ : ∃ k : Nat, i.f1 = k := ⟨i.f1.toNat, by omega⟩
  have hlt : k < s.ch.length := by omega
  obtain ⟨x, hx⟩ : ∃ x, s.ch[k]? = some x := ⟨_, List.getElem?_eq_getElem hlt⟩
  have hB1 : Below w.heap.size w (w.alloc (.cells (sysA s p) 26)) := (Below.refl _ _).alloc (Nat.le_refl _) _
  have hB2 := hB1.alloc hB1.size (.cells #[.int .i64 i.f0, .int .i64 i.f1, .int .i64 i.f2] 44)
  obtain ⟨ad, A1, cc, e3, t0, _, _⟩ := at_L3 (hC.below hB2).r5 (k : Int) (by omega) (by omega)
  rw [rdL hx, Int.toNat_natCast] at t0
  have hR : decide ((s.ch.getD i.f1.toNat []).length < 2) = decide ((x.length : Int) < 2) := by rw [hk, Int.toNat_natCast, getD_ofL hx]; exact decide_eq_decide.mpr (by omega)
  rw [hR]
  have HB2 := Aside0.mk hB2
  obtain ⟨o, a, n⟩ := i
  dsimp only at *
  subst hk
  obtain ⟨a0, c0, a1, c1, a2, c2, a3, c3, a4, c4, a5, c5⟩ := p
  unfold sysA at *
  dsimp only at *
  subst e3
  clear hR hB1 hB2 hC hx hi h4 h2
  go_enter Try.func68, Try.ntmps68
  go_wp2
  go_ret
  exact ⟨rfl, HB2.out⟩
set_option maxRecDepth 100000 in
set_option maxHeartbeats 4000000 in
theorem hasSome_calls (s : Syst) (p : Ad) (i : S44) (w : World) (hC : SysC w s p) (hi : okI i = true) (h4 : s.ch.length = 4) : Calls Try.prog 71 #[.agg (sysA s p), iv i] w (Ret (decide (0 < (s.ch.getD i.f1.toNat []).length)) w) := by
  obtain ⟨_, _, h1, h2, _⟩ := okI_bounds hi
  obtain ⟨k, hk⟩ : ∃ k : Nat, i.f1 = k := ⟨i.f1.toNat, by omega⟩
  have hlt : k < s.ch.length := by omega
  obtain ⟨x, hx⟩ : ∃ x, s.ch[k]? = some x := ⟨_, List.getElem?_eq_getElem hlt⟩
  have hB1 : Below w.heap.size w (w.alloc (.cells (sysA s p) 26)) := (Below.refl _ _).alloc (Nat.le_refl _) _
  have hB2 := hB1.alloc hB1.size (.cells #[.int .i64 i.f0, .int .i64 i.f1, .int .i64 i.f2] 44)
  obtain ⟨ad, A1, cc, e3, t0, _, _⟩ := at_L3 (hC.below hB2).r5 (k : Int) (by omega) (by omega)
  rw [rdL hx, Int.toNat_natCast] at t0
  have hR : decide (0 < (s.ch.getD i.f1.toNat []).length) = decide (0 < x.length) := by rw [hk, Int.toNat_natCast, getD_ofL hx]
  rw [hR]
  have HB2 := Aside0.mk hB2
  obtain ⟨o, a, n⟩ := i
  dsimp only at *
  subst hk
  obtain ⟨a0, c0, a1, c1, a2, c2, a3, c3, a4, c4, a5, c5⟩ := p
  unfold sysA at *
  dsimp only at *
  subst e3
  clear hR hB1 hB2 hC hx hi h4 h2
  go_enter Try.func71, Try.ntmps71
  go_wp2
  go_ret
  exact ⟨rfl, HB2.out⟩
end Go.Proofs.Ythnimpbcfegmjaa.Own
/-
  sched.can and sched.enabled, walked by hand.
-/
namespace Go.Proofs.Ythnimpbcfegmjaa.Own
open Go.RowKit Go.Proofs.YthnimpbcfegmjaaW.PrintWords Go.Proofs.YthnimpbcfegmjaaW.PrintLast Go.Proofs.YthnimpbcfegmjaaW.PrintMore Go.Proofs.Ythnimpbcfegmjaa.P Go.Proofs.Ythnimpbcfegmjaa.Model
set_option linter.unusedVariables false

theorem always_calls (s : Syst) (p : Ad) (i : S44) (w : World) : Calls Try.prog 65 #[.agg (sysA s p), iv i] w (Ret true w) := by
  obtain ⟨a0, c0, a1, c1, a2, c2, a3, c3, a4, c4, a5, c5⟩ := p
  unfold sysA
  dsimp only
  go_enter Try.func65, Try.ntmps65
  go_wp2
  go_ret
  exact ⟨rfl, ((Below.refl _ _).alloc (Nat.le_refl _) _).alloc (by simp) _⟩
set_option maxRecDepth 100000 in
set_option maxHeartbeats 4000000 in
theorem can_calls (s : Syst) (p : Ad) (t : Nat) (w : World) (hC : SysC w s p) (hS : Shp s) (ht : t < s.th.length) : Calls Try.prog 52 #[.agg (sysA s p), .int .i64 t] w (Ret (canB s t) w) := by
  obtain ⟨l, hl⟩ : ∃ l, s.th[t]? = some l := ⟨_, List.getElem?_eq_getElem ht⟩
  have htA : t < s.at_.length := by have := hS.at_; omega
  obtain ⟨a, ha⟩ : ∃ a, s.at_[t]? = some a := ⟨_, List.getElem?_eq_getElem htA⟩
  obtain ⟨hl16, ha0, hal, hok⟩ := hS.th t l a hl ha
  obtain ⟨k, rfl⟩ : ∃ k : Nat, a = k := ⟨a.toNat, by omega⟩
  have hB1 : Below w.heap.size w (w.alloc (.cells (sysA s p) 26)) := (Below.refl _ _).alloc (Nat.le_refl _) _
  have HB1 := Aside0.mk hB1
  have HC := Aside0.mk hC
  have hCw := hC.below hB1
  obtain ⟨ad, A1, cc, e0, t0, t1, t2⟩ := at_L2 hCw.r0 (t : Int) (by omega) (by omega)
  obtain ⟨ad1, e1, t3⟩ := Kd.at_int hCw.r1 (t : Int) (by omega) (by omega)
  rw [rdT hl] at t0 t1 t2
  rw [rdI ha] at t3
  rw [Int.toNat_natCast] at t0 t3
  have HS := Aside0.mk hS
  have hins : insA s t = l[k]? := by unfold insA; rw [hl, ha]; simp
  have HOK := Aside0.mk hok
  obtain ⟨a0, c0, a1, c1, a2, c2, a3, c3, a4, c4, a5, c5⟩ := p
  unfold sysA at *
  dsimp only at *
  subst e0 e1
  clear hC hCw hB1 hS ha hl hok
  by_cases hk : k < l.length
  · obtain ⟨i, hi⟩ : ∃ i, l[k]? = some i := ⟨_, List.getElem?_eq_getElem hk⟩
    have hcan : canB s t = canI s i := by unfold canB; rw [hins, hi]
    rw [hcan]
    obtain ⟨ad2, e2, u0, u1, u2⟩ := at_T44 t2 (k : Int) (by omega) (by omega)
    subst e2
    rw [rd44 hi, Int.toNat_natCast] at u0 u1 u2
    have dk : ((k : Int) == (l.length : Int)) = false := beq_eq_false_iff_ne.mpr (by omega)
    have HOI : Aside0 (okI i = true) := ⟨HOK.out i (List.mem_of_getElem? hi)⟩
    clear hins hcan hi t2
    go_enter Try.func52, Try.ntmps52
    go_wp2
    have HG := Aside0.mk (blk_new w (.cells #[.slice (some ad) s.th.length c0, .slice (some ad1) s.at_.length c1, .slice a2 s.su.length c2, .slice a3 s.lo.length c3, .slice a4 s.ce.length c4, .slice a5 s.ch.length c5] 26))
    have q0 : (w.alloc (.cells #[.slice (some ad) s.th.length c0, .slice (some ad1) s.at_.length c1, .slice a2 s.su.length c2, .slice a3 s.lo.length c3, .slice a4 s.ce.length c4, .slice a5 s.ch.length c5] 26)).cell? ⟨w.heap.size, 0, none⟩ = some (.slice (some ad) s.th.length c0) := blk_cell HG.out 0
    have q1 : (w.alloc (.cells #[.slice (some ad) s.th.length c0, .slice (some ad1) s.at_.length c1, .slice a2 s.su.length c2, .slice a3 s.lo.length c3, .slice a4 s.ce.length c4, .slice a5 s.ch.length c5] 26)).cell? ⟨w.heap.size, 1, none⟩ = some (.slice (some ad1) s.at_.length c1) := blk_cell HG.out 1
    generalize w.alloc (.cells #[.slice (some ad) s.th.length c0, .slice (some ad1) s.at_.length c1, .slice a2 s.su.length c2, .slice a3 s.lo.length c3, .slice a4 s.ce.length c4, .slice a5 s.ch.length c5] 26) = w1 at *
    go_quiet (fail)
    replace q0 := pw_cell_below (pw_below_drewN (Below.refl w1.heap.size w1) nq) q0
    replace q1 := pw_cell_below (pw_below_drewN (Below.refl w1.heap.size w1) nq) q1
    replace t0 := pw_cell_below (pw_below_drewN (Below.refl w1.heap.size w1) nq) t0
    replace t3 := pw_cell_below (pw_below_drewN (Below.refl w1.heap.size w1) nq) t3
    replace u0 := pw_cell_below (pw_below_drewN (Below.refl w1.heap.size w1) nq) u0
    replace u1 := pw_cell_below (pw_below_drewN (Below.refl w1.heap.size w1) nq) u1
    replace u2 := pw_cell_below (pw_below_drewN (Below.refl w1.heap.size w1) nq) u2
    replace HG := Aside0.mk (blk_below HG.out (pw_below_drewN (Below.refl w1.heap.size w1) nq))
    have HB2 := Aside0.mk (pw_below_drewN HB1.out nq)
    generalize w1.drewN nq = w2 at *
    clear HB1
    have hBA := (Below.refl w2.heap.size w2).alloc (Nat.le_refl _) (.cells #[.int .i64 0, .int .i64 0, .int .i64 0] 44)
    have q0' := pw_cell_below hBA q0
    have q1' := pw_cell_below hBA q1
    have t0' := pw_cell_below hBA t0
    have t3' := pw_cell_below hBA t3
    have u0' := pw_cell_below hBA u0
    have u1' := pw_cell_below hBA u1
    have u2' := pw_cell_below hBA u2
    clear hBA
    go_wp2
    go_region
    clear q0 q1 t0 t3 u0 u1 u2 q0' q1' t0' t3' u0' u1' u2'
    have hB3 := (below_drew ((Below.refl w2.heap.size w2).alloc (Nat.le_refl _) (.cells #[.int .i64 i.f0, .int .i64 i.f1, .int .i64 i.f2] 44)))
    have HB3 := Aside0.mk (HB2.out.trans (hB3.mono HB2.out.size))
    have hG3 := blk_below HG.out hB3
    have hI3 : ((w2.alloc (.cells #[.int .i64 i.f0, .int .i64 i.f1, .int .i64 i.f2] 44)).drew).heap[w2.heap.size]? = some (.cells #[.int .i64 i.f0, .int .i64 i.f1, .int .i64 i.f2] 44 (0, 0)) := blk_new w2 _
    generalize (w2.alloc (.cells #[.int .i64 i.f0, .int .i64 i.f1, .int .i64 i.f2] 44)).drew = w3 at *
    have q0 : w3.cell? ⟨w.heap.size, 0, none⟩ = some (.slice (some ad) s.th.length c0) := blk_cell hG3 0
    have q1 : w3.cell? ⟨w.heap.size, 1, none⟩ = some (.slice (some ad1) s.at_.length c1) := blk_cell hG3 1
    have q2 : w3.cell? ⟨w.heap.size, 2, none⟩ = some (.slice a2 s.su.length c2) := blk_cell hG3 2
    have q3 : w3.cell? ⟨w.heap.size, 3, none⟩ = some (.slice a3 s.lo.length c3) := blk_cell hG3 3
    have q4 : w3.cell? ⟨w.heap.size, 4, none⟩ = some (.slice a4 s.ce.length c4) := blk_cell hG3 4
    have q5 : w3.cell? ⟨w.heap.size, 5, none⟩ = some (.slice a5 s.ch.length c5) := blk_cell hG3 5
    have i0 : w3.cell? ⟨w2.heap.size, 0, none⟩ = some (.int .i64 i.f0) := blk_cell hI3 0
    have i1 : w3.cell? ⟨w2.heap.size, 1, none⟩ = some (.int .i64 i.f1) := blk_cell hI3 1
    have i2 : w3.cell? ⟨w2.heap.size, 2, none⟩ = some (.int .i64 i.f2) := blk_cell hI3 2
    clear hB3 hG3 hI3 HG HB2
    have HC3 := Aside0.mk (HC.out.below (below_drew HB3.out))
    obtain ⟨o, na, n⟩ := i
    dsimp only at *
    obtain ⟨ho0, ho4, -⟩ := okI_bounds HOI.out
    dsimp only at ho0 ho4
    have HH : ∀ {o' : Int}, Aside0 (okI ⟨o', na, n⟩ = true) → okI ⟨o', na, n⟩ = true := fun h => h.out
    have hcases : o = 0 ∨ o = 1 ∨ o = 2 ∨ o = 3 ∨ o = 4 := by omega
    clear ho0 ho4
    have h4l : Aside0 (s.lo.length = 4) := ⟨HS.out.lo⟩
    have h4c : Aside0 (s.ch.length = 4) := ⟨HS.out.ch⟩
    rcases hcases with rfl | rfl | rfl | rfl | rfl
    · as_aux_lemma =>
      have qx : ∀ w : World, (Instr.index 82 kindsV (.int .i64 0)).run Try.prog w = .ok (.agg #[fn 63, fn 64]) w := fun _ => by kernel_rfl
      have qy : ∀ w : World, (Instr.field 81 (.agg #[fn 63, fn 64]) 0).run Try.prog w = .ok (fn 63) w := fun _ => by kernel_rfl
      go_wp2 
      go_region_held3 (fun w' => w'.cell? ⟨w.heap.size, 0, none⟩ = some (.slice (some ad) s.th.length c0) ∧ w'.cell? ⟨w.heap.size, 1, none⟩ = some (.slice (some ad1) s.at_.length c1) ∧ w'.cell? ⟨w.heap.size, 2, none⟩ = some (.slice a2 s.su.length c2) ∧ w'.cell? ⟨w.heap.size, 3, none⟩ = some (.slice a3 s.lo.length c3) ∧ w'.cell? ⟨w.heap.size, 4, none⟩ = some (.slice a4 s.ce.length c4) ∧ w'.cell? ⟨w.heap.size, 5, none⟩ = some (.slice a5 s.ch.length c5) ∧ w'.cell? ⟨w2.heap.size, 0, none⟩ = some (.int .i64 0) ∧ w'.cell? ⟨w2.heap.size, 1, none⟩ = some (.int .i64 na) ∧ w'.cell? ⟨w2.heap.size, 2, none⟩ = some (.int .i64 n)) (go_keep) ((first | (go_at_call 58; refine (kinds_calls _).mono ?_; rintro e w' ⟨rfl, hb⟩; replace q0 := pw_cell_below hb q0; replace q1 := pw_cell_below hb q1; replace q2 := pw_cell_below hb q2; replace q3 := pw_cell_below hb q3; replace q4 := pw_cell_below hb q4; replace q5 := pw_cell_below hb q5; replace i0 := pw_cell_below hb i0; replace i1 := pw_cell_below hb i1; replace i2 := pw_cell_below hb i2; have HB58 := Aside0.mk hb; clear hb) | (go_at_call 63; refine (lockFree_calls s _ ⟨0, na, n⟩ _ (HC3.out.below HB58.out) HOI.out h4l.out).mono ?_; rintro e w'' ⟨rfl, hb⟩; replace q0 := pw_cell_below hb q0; replace q1 := pw_cell_below hb q1; replace q2 := pw_cell_below hb q2; replace q3 := pw_cell_below hb q3; replace q4 := pw_cell_below hb q4; replace q5 := pw_cell_below hb q5; replace i0 := pw_cell_below hb i0; replace i1 := pw_cell_below hb i1; replace i2 := pw_cell_below hb i2; have HB59 := Aside0.mk hb; clear hb)))
      all_goals (go_wp2; go_ret; exact ⟨by simp [canI], (below_drew HB3.out).trans ((HB58.out.trans (HB59.out.mono HB58.out.size)).mono (below_drew HB3.out).size)⟩)
    · as_aux_lemma =>
      have qx : ∀ w : World, (Instr.index 82 kindsV (.int .i64 1)).run Try.prog w = .ok (.agg #[fn 65, fn 66]) w := fun _ => by kernel_rfl
      have qy : ∀ w : World, (Instr.field 81 (.agg #[fn 65, fn 66]) 0).run Try.prog w = .ok (fn 65) w := fun _ => by kernel_rfl
      go_wp2 
      go_region_held3 (fun w' => w'.cell? ⟨w.heap.size, 0, none⟩ = some (.slice (some ad) s.th.length c0) ∧ w'.cell? ⟨w.heap.size, 1, none⟩ = some (.slice (some ad1) s.at_.length c1) ∧ w'.cell? ⟨w.heap.size, 2, none⟩ = some (.slice a2 s.su.length c2) ∧ w'.cell? ⟨w.heap.size, 3, none⟩ = some (.slice a3 s.lo.length c3) ∧ w'.cell? ⟨w.heap.size, 4, none⟩ = some (.slice a4 s.ce.length c4) ∧ w'.cell? ⟨w.heap.size, 5, none⟩ = some (.slice a5 s.ch.length c5) ∧ w'.cell? ⟨w2.heap.size, 0, none⟩ = some (.int .i64 1) ∧ w'.cell? ⟨w2.heap.size, 1, none⟩ = some (.int .i64 na) ∧ w'.cell? ⟨w2.heap.size, 2, none⟩ = some (.int .i64 n)) (go_keep) ((first | (go_at_call 58; refine (kinds_calls _).mono ?_; rintro e w' ⟨rfl, hb⟩; replace q0 := pw_cell_below hb q0; replace q1 := pw_cell_below hb q1; replace q2 := pw_cell_below hb q2; replace q3 := pw_cell_below hb q3; replace q4 := pw_cell_below hb q4; replace q5 := pw_cell_below hb q5; replace i0 := pw_cell_below hb i0; replace i1 := pw_cell_below hb i1; replace i2 := pw_cell_below hb i2; have HB58 := Aside0.mk hb; clear hb) | (go_at_call 65; refine (always_calls s ⟨some ad, c0, some ad1, c1, a2, c2, a3, c3, a4, c4, a5, c5⟩ ⟨1, na, n⟩ _).mono ?_; rintro e w'' ⟨rfl, hb⟩; replace q0 := pw_cell_below hb q0; replace q1 := pw_cell_below hb q1; replace q2 := pw_cell_below hb q2; replace q3 := pw_cell_below hb q3; replace q4 := pw_cell_below hb q4; replace q5 := pw_cell_below hb q5; replace i0 := pw_cell_below hb i0; replace i1 := pw_cell_below hb i1; replace i2 := pw_cell_below hb i2; have HB59 := Aside0.mk hb; clear hb)))
      all_goals (go_wp2; go_ret; exact ⟨by simp [canI], (below_drew HB3.out).trans ((HB58.out.trans (HB59.out.mono HB58.out.size)).mono (below_drew HB3.out).size)⟩)
    · as_aux_lemma =>
      have qx : ∀ w : World, (Instr.index 82 kindsV (.int .i64 2)).run Try.prog w = .ok (.agg #[fn 65, fn 67]) w := fun _ => by kernel_rfl
      have qy : ∀ w : World, (Instr.field 81 (.agg #[fn 65, fn 67]) 0).run Try.prog w = .ok (fn 65) w := fun _ => by kernel_rfl
      go_wp2 
      go_region_held3 (fun w' => w'.cell? ⟨w.heap.size, 0, none⟩ = some (.slice (some ad) s.th.length c0) ∧ w'.cell? ⟨w.heap.size, 1, none⟩ = some (.slice (some ad1) s.at_.length c1) ∧ w'.cell? ⟨w.heap.size, 2, none⟩ = some (.slice a2 s.su.length c2) ∧ w'.cell? ⟨w.heap.size, 3, none⟩ = some (.slice a3 s.lo.length c3) ∧ w'.cell? ⟨w.heap.size, 4, none⟩ = some (.slice a4 s.ce.length c4) ∧ w'.cell? ⟨w.heap.size, 5, none⟩ = some (.slice a5 s.ch.length c5) ∧ w'.cell? ⟨w2.heap.size, 0, none⟩ = some (.int .i64 2) ∧ w'.cell? ⟨w2.heap.size, 1, none⟩ = some (.int .i64 na) ∧ w'.cell? ⟨w2.heap.size, 2, none⟩ = some (.int .i64 n)) (go_keep) ((first | (go_at_call 58; refine (kinds_calls _).mono ?_; rintro e w' ⟨rfl, hb⟩; replace q0 := pw_cell_below hb q0; replace q1 := pw_cell_below hb q1; replace q2 := pw_cell_below hb q2; replace q3 := pw_cell_below hb q3; replace q4 := pw_cell_below hb q4; replace q5 := pw_cell_below hb q5; replace i0 := pw_cell_below hb i0; replace i1 := pw_cell_below hb i1; replace i2 := pw_cell_below hb i2; have HB58 := Aside0.mk hb; clear hb) | (go_at_call 65; refine (always_calls s ⟨some ad, c0, some ad1, c1, a2, c2, a3, c3, a4, c4, a5, c5⟩ ⟨2, na, n⟩ _).mono ?_; rintro e w'' ⟨rfl, hb⟩; replace q0 := pw_cell_below hb q0; replace q1 := pw_cell_below hb q1; replace q2 := pw_cell_below hb q2; replace q3 := pw_cell_below hb q3; replace q4 := pw_cell_below hb q4; replace q5 := pw_cell_below hb q5; replace i0 := pw_cell_below hb i0; replace i1 := pw_cell_below hb i1; replace i2 := pw_cell_below hb i2; have HB59 := Aside0.mk hb; clear hb)))
      all_goals (go_wp2; go_ret; exact ⟨by simp [canI], (below_drew HB3.out).trans ((HB58.out.trans (HB59.out.mono HB58.out.size)).mono (below_drew HB3.out).size)⟩)
    · as_aux_lemma =>
      have qx : ∀ w : World, (Instr.index 82 kindsV (.int .i64 3)).run Try.prog w = .ok (.agg #[fn 68, fn 69]) w := fun _ => by kernel_rfl
      have qy : ∀ w : World, (Instr.field 81 (.agg #[fn 68, fn 69]) 0).run Try.prog w = .ok (fn 68) w := fun _ => by kernel_rfl
      go_wp2 
      go_region_held3 (fun w' => w'.cell? ⟨w.heap.size, 0, none⟩ = some (.slice (some ad) s.th.length c0) ∧ w'.cell? ⟨w.heap.size, 1, none⟩ = some (.slice (some ad1) s.at_.length c1) ∧ w'.cell? ⟨w.heap.size, 2, none⟩ = some (.slice a2 s.su.length c2) ∧ w'.cell? ⟨w.heap.size, 3, none⟩ = some (.slice a3 s.lo.length c3) ∧ w'.cell? ⟨w.heap.size, 4, none⟩ = some (.slice a4 s.ce.length c4) ∧ w'.cell? ⟨w.heap.size, 5, none⟩ = some (.slice a5 s.ch.length c5) ∧ w'.cell? ⟨w2.heap.size, 0, none⟩ = some (.int .i64 3) ∧ w'.cell? ⟨w2.heap.size, 1, none⟩ = some (.int .i64 na) ∧ w'.cell? ⟨w2.heap.size, 2, none⟩ = some (.int .i64 n)) (go_keep) ((first | (go_at_call 58; refine (kinds_calls _).mono ?_; rintro e w' ⟨rfl, hb⟩; replace q0 := pw_cell_below hb q0; replace q1 := pw_cell_below hb q1; replace q2 := pw_cell_below hb q2; replace q3 := pw_cell_below hb q3; replace q4 := pw_cell_below hb q4; replace q5 := pw_cell_below hb q5; replace i0 := pw_cell_below hb i0; replace i1 := pw_cell_below hb i1; replace i2 := pw_cell_below hb i2; have HB58 := Aside0.mk hb; clear hb) | (go_at_call 68; refine (hasRoom_calls s _ ⟨3, na, n⟩ _ (HC3.out.below HB58.out) HOI.out h4c.out).mono ?_; rintro e w'' ⟨rfl, hb⟩; replace q0 := pw_cell_below hb q0; replace q1 := pw_cell_below hb q1; replace q2 := pw_cell_below hb q2; replace q3 := pw_cell_below hb q3; replace q4 := pw_cell_below hb q4; replace q5 := pw_cell_below hb q5; replace i0 := pw_cell_below hb i0; replace i1 := pw_cell_below hb i1; replace i2 := pw_cell_below hb i2; have HB59 := Aside0.mk hb; clear hb)))
      all_goals (go_wp2; go_ret; exact ⟨by simp [canI], (below_drew HB3.out).trans ((HB58.out.trans (HB59.out.mono HB58.out.size)).mono (below_drew HB3.out).size)⟩)
    · as_aux_lemma =>
      have qx : ∀ w : World, (Instr.index 82 kindsV (.int .i64 4)).run Try.prog w = .ok (.agg #[fn 71, fn 72]) w := fun _ => by kernel_rfl
      have qy : ∀ w : World, (Instr.field 81 (.agg #[fn 71, fn 72]) 0).run Try.prog w = .ok (fn 71) w := fun _ => by kernel_rfl
      go_wp2 
      go_region_held3 (fun w' => w'.cell? ⟨w.heap.size, 0, none⟩ = some (.slice (some ad) s.th.length c0) ∧ w'.cell? ⟨w.heap.size, 1, none⟩ = some (.slice (some ad1) s.at_.length c1) ∧ w'.cell? ⟨w.heap.size, 2, none⟩ = some (.slice a2 s.su.length c2) ∧ w'.cell? ⟨w.heap.size, 3, none⟩ = some (.slice a3 s.lo.length c3) ∧ w'.cell? ⟨w.heap.size, 4, none⟩ = some (.slice a4 s.ce.length c4) ∧ w'.cell? ⟨w.heap.size, 5, none⟩ = some (.slice a5 s.ch.length c5) ∧ w'.cell? ⟨w2.heap.size, 0, none⟩ = some (.int .i64 4) ∧ w'.cell? ⟨w2.heap.size, 1, none⟩ = some (.int .i64 na) ∧ w'.cell? ⟨w2.heap.size, 2, none⟩ = some (.int .i64 n)) (go_keep) ((first | (go_at_call 58; refine (kinds_calls _).mono ?_; rintro e w' ⟨rfl, hb⟩; replace q0 := pw_cell_below hb q0; replace q1 := pw_cell_below hb q1; replace q2 := pw_cell_below hb q2; replace q3 := pw_cell_below hb q3; replace q4 := pw_cell_below hb q4; replace q5 := pw_cell_below hb q5; replace i0 := pw_cell_below hb i0; replace i1 := pw_cell_below hb i1; replace i2 := pw_cell_below hb i2; have HB58 := Aside0.mk hb; clear hb) | (go_at_call 71; refine (hasSome_calls s _ ⟨4, na, n⟩ _ (HC3.out.below HB58.out) HOI.out h4c.out).mono ?_; rintro e w'' ⟨rfl, hb⟩; replace q0 := pw_cell_below hb q0; replace q1 := pw_cell_below hb q1; replace q2 := pw_cell_below hb q2; replace q3 := pw_cell_below hb q3; replace q4 := pw_cell_below hb q4; replace q5 := pw_cell_below hb q5; replace i0 := pw_cell_below hb i0; replace i1 := pw_cell_below hb i1; replace i2 := pw_cell_below hb i2; have HB59 := Aside0.mk hb; clear hb)))
      all_goals (go_wp2; go_ret; exact ⟨by simp [canI], (below_drew HB3.out).trans ((HB58.out.trans (HB59.out.mono HB58.out.size)).mono (below_drew HB3.out).size)⟩)
  · obtain rfl : k = l.length := by omega
    have hcan : canB s t = false := by unfold canB; rw [hins, List.getElem?_eq_none (Nat.le_refl _)]
    rw [hcan]
    clear hins hcan t2
    go_enter Try.func52, Try.ntmps52
    go_wp2
    go_quiet (fail)
    go_wp2
    go_ret
    exact ⟨rfl, pw_below_drewN HB1.out _⟩
end Go.Proofs.Ythnimpbcfegmjaa.Own
/-
  sched.enabled, walked by hand.
-/
namespace Go.Proofs.Ythnimpbcfegmjaa.Own
open Go.RowKit Go.Proofs.YthnimpbcfegmjaaW.PrintWords Go.Proofs.YthnimpbcfegmjaaW.PrintLast Go.Proofs.YthnimpbcfegmjaaW.PrintMore Go.Proofs.Ythnimpbcfegmjaa.P Go.Proofs.Ythnimpbcfegmjaa.Model
set_option linter.unusedVariables false

theorem one_CI {w : World} {g : Nat} {x : Int} (hb : w.heap[g]? = some (.cells #[.int .i64 x] 3 (0, 0))) : CI w (some ⟨g, 0, none⟩) [x] := by
  refine ⟨rfl, by simp, fun _ => ⟨_, rfl, fun j p hj => ?_⟩⟩
  match j, hj with
  | 0, hj =>
    obtain rfl : x = p := by simpa using hj
    refine ⟨[.int .i64 x], rfl, rfl, fun i u hu => ?_⟩
    match i, hu with
    | 0, hu => rw [add_plain, blk_cell hb]; exact hu
  | j + 1, hj => simp at hj
def enTo (s : Syst) (k : Nat) : List Int := ((List.range k).filter (canB s)).map (fun t : Nat => (t : Int))
theorem enTo_yes {s : Syst} {k : Nat} (h : canB s k = true) : enTo s (k + 1) = enTo s k ++ [(k : Int)] := by
  unfold enTo; rw [List.range_succ, List.filter_append, List.map_append]; simp [h]
theorem enTo_no {s : Syst} {k : Nat} (h : canB s k = false) : enTo s (k + 1) = enTo s k := by
  unfold enTo; rw [List.range_succ, List.filter_append, List.map_append]; simp [h]
theorem enTo_length (s : Syst) (k : Nat) : (enTo s k).length ≤ k := by
  unfold enTo; rw [List.length_map]; exact Nat.le_trans (List.length_filter_le _ _) (by simp)
def EnP (s : Syst) (w : World) (e : Ending) (w' : World) : Prop := ∃ v, e = .returned v ∧ RowI w' w.heap.size v (enL s) ∧ Below w.heap.size w w'
set_option maxRecDepth 100000 in
set_option maxHeartbeats 4000000 in
theorem enabled_calls (s : Syst) (p : Ad) (w : World) (hC : SysC w s p) (hS : Shp s) : Calls Try.prog 32 #[.agg (sysA s p)] w (EnP s w) := by
  have hB1 : Below w.heap.size w (w.alloc (.cells (sysA s p) 26)) := (Below.refl _ _).alloc (Nat.le_refl _) _
  have HB1 := Aside0.mk hB1
  have HC1 := Aside0.mk (hC.below hB1)
  have HS := Aside0.mk hS
  have hn8 := hS.n
  have HB0 : Aside0 (Below (w.alloc (.cells (sysA s p) 26)).heap.size (w.alloc (.cells (sysA s p) 26)) (w.alloc (.cells (sysA s p) 26))) := ⟨Below.refl _ _⟩
  have HG := Aside0.mk (blk_new w (.cells (sysA s p) 26))
  have HP : Aside0 (∀ (W : World) (t : Nat), SysC W s p → t < s.th.length → Calls Try.prog 52 #[.agg (sysA s p), .int .i64 t] W (Ret (canB s t) W)) := ⟨fun W t h ht => can_calls s p t W h hS ht⟩
  have hD : ∀ W, SysC W s p = SysC W s p := fun _ => rfl
  obtain ⟨a0, c0, a1, c1, a2, c2, a3, c3, a4, c4, a5, c5⟩ := p
  unfold sysA at *
  dsimp only at *
  clear hD hC hS hB1
  go_enter Try.func32, Try.ntmps32
  go_wp2
  generalize w.alloc (.cells #[.slice a0 s.th.length c0, .slice a1 s.at_.length c1, .slice a2 s.su.length c2, .slice a3 s.lo.length c3, .slice a4 s.ce.length c4, .slice a5 s.ch.length c5] 26) = w1 at *
  go_loopw [3, 8] (fun v3 v8 W => ∃ k : Nat, k ≤ s.th.length ∧ v8 = .int .i64 k ∧ Aside0 (RowI W w1.heap.size v3 (enTo s k)) ∧ Aside0 (Below w1.heap.size w1 W)) (fun _ v8 _ => s.th.length - (intOf v8).toNat)
  case atStart => exact ⟨0, Nat.zero_le _, rfl, ⟨World.ownsRow_nil _ _ _ _⟩, HB0⟩
  case round => as_aux_lemma =>
    clear HB0
    obtain ⟨k, hk, rfl, HR, HB⟩ := hrel
    have hg := blk_below HG.out HB.out
    have q0 : wr.cell? ⟨w.heap.size, 0, none⟩ = some (.slice a0 s.th.length c0) := blk_cell hg 0
    have q1 : wr.cell? ⟨w.heap.size, 1, none⟩ = some (.slice a1 s.at_.length c1) := blk_cell hg 1
    have q2 : wr.cell? ⟨w.heap.size, 2, none⟩ = some (.slice a2 s.su.length c2) := blk_cell hg 2
    have q3 : wr.cell? ⟨w.heap.size, 3, none⟩ = some (.slice a3 s.lo.length c3) := blk_cell hg 3
    have q4 : wr.cell? ⟨w.heap.size, 4, none⟩ = some (.slice a4 s.ce.length c4) := blk_cell hg 4
    have q5 : wr.cell? ⟨w.heap.size, 5, none⟩ = some (.slice a5 s.ch.length c5) := blk_cell hg 5
    clear hg
    by_cases hlt : k < s.th.length
    · have HCk := Aside0.mk (HC1.out.below HB.out)
      cases hcan : canB s k with
      | true =>
        have HCAN := Aside0.mk hcan
        have HE := Aside0.mk (enTo_yes hcan)
        have hle := enTo_length s k
        have HLE : Aside0 ((enTo s k).length + 1 ≤ 1000000) := ⟨by omega⟩
        clear hcan hle
        go_wp2_with (first
          | (go_at_call 52; refine (HP.out _ k HCk.out hlt).mono ?_; rintro e w2 ⟨rfl, hb⟩; rw [HCAN.out]; have HB2 := Aside0.mk (HB.out.trans (hb.mono HB.out.size)); have HR2 := Aside0.mk (below_row HR.out hb); clear hb)
          | (at_builtin; refine hold ?_))
        refine ⟨?_⟩
        refine app_ints rfl _ _ rfl w1 w1.heap.size _ _ [(k : Int)] (some ⟨w2.heap.size, 0, none⟩) 1 1 rfl rfl (below_row HR2.out ((Below.refl _ _).alloc (Nat.le_refl _) _)) (one_CI (blk_new w2 _)) (HB2.out.alloc HB2.out.size _) (HB2.out.alloc HB2.out.size _).size HLE.out ?_
        intro v1 w3 hr hb _ _
        rw [← HE.out] at hr
        have HR3 := Aside0.mk hr
        have HB3 := Aside0.mk hb
        clear hr hb HR2 HB2 HR
        go_wp2
        go_roundw
        case rel => exact ⟨k + 1, hlt, by go_num, HR3, HB3⟩
        case measure => simp [intOf]; omega
      | false =>
        have HCAN := Aside0.mk hcan
        have HE := Aside0.mk (enTo_no hcan)
        clear hcan
        go_wp2_with (go_at_call 52; refine (HP.out _ k HCk.out hlt).mono ?_; rintro e w2 ⟨rfl, hb⟩; rw [HCAN.out]; have HB2 := Aside0.mk (HB.out.trans (hb.mono HB.out.size)); have HR2 := Aside0.mk (below_row HR.out hb); clear hb)
        go_roundw
        case rel => exact ⟨k + 1, hlt, by go_num, ⟨by rw [HE.out]; exact HR2.out⟩, HB2⟩
        case measure => simp [intOf]; omega
    · obtain rfl : k = s.th.length := by omega
      go_wp2
      go_ret
      exact ⟨_, rfl, own_weaken HR.out HB1.out.size, HB1.out.trans (HB.out.mono HB1.out.size)⟩
end Go.Proofs.Ythnimpbcfegmjaa.Own
/-
  A system whose rows are the call's own (but for the threads): what sched.step's parts write to.
-/
namespace Go.Proofs.Ythnimpbcfegmjaa.Own
open Go.RowKit Go.Proofs.YthnimpbcfegmjaaW.PrintWords Go.Proofs.YthnimpbcfegmjaaW.PrintLast Go.Proofs.YthnimpbcfegmjaaW.PrintMore Go.Proofs.Ythnimpbcfegmjaa.P Go.Proofs.Ythnimpbcfegmjaa.Model
set_option linter.unusedVariables false

/-- Each cell of w0 is one of w (w0 may lack blocks that w has). -/
structure Up (w0 w : World) : Prop where
  cell : ∀ {a : Addr} {v : Value}, w0.cell? a = some v → w.cell? a = some v
  size : w0.heap.size ≤ w.heap.size
theorem Up.refl (w : World) : Up w w := ⟨id, Nat.le_refl _⟩
theorem Up.trans {a b c : World} (h : Up a b) (k : Up b c) : Up a c := ⟨fun x => k.cell (h.cell x), Nat.le_trans h.size k.size⟩
theorem up_below {w w1 : World} (h : Below w.heap.size w w1) : Up w w1 := ⟨fun hc => pw_cell_below h hc, h.size⟩
theorem Up.drew {a b : World} (h : Up a b) : Up a b.drew := h.trans ⟨id, Nat.le_refl _⟩
theorem cell_ne (w : World) {q a : Addr} (hq : a.block ≠ q.block) (u : Value) : (w.setCell q u).cell? a = w.cell? a := World.cell?_of_block (w := w) (Below.heap_setCell _ _ _ _ hq)
theorem Up.setNone {w0 w : World} (h : Up w0 w) {q : Addr} (hq : ∀ a v, w0.cell? a = some v → a.block ≠ q.block) (u : Value) : Up w0 (w.setCell q u) := ⟨fun {a v} hc => (cell_ne w (hq a v hc) u).trans (h.cell hc), by simpa using h.size⟩
theorem Up.setCell {w0 w : World} (h : Up w0 w) {q : Addr} (hq : w0.heap.size ≤ q.block) (u : Value) : Up w0 (w.setCell q u) := h.setNone (fun a v hc => by have := World.block_lt_of_cell? w0 a hc; omega) u
theorem reads_up {α : Type} {R R' : α → List Value → Prop} {size : Nat} {w w1 : World} {A : Option Addr} {n : Nat} {ps : List α} (h : ReadsRow R size w A n ps) (hb : Up w w1) (hR : ∀ p c, R p c → R' p c) : ReadsRow R' size w1 A n ps := by
  refine ⟨h.1, h.2.1, fun hn => ?_⟩
  obtain ⟨ad, e, f⟩ := h.2.2 hn
  refine ⟨ad, e, fun j p hp => ?_⟩
  obtain ⟨c, h1, h2, h3⟩ := f j p hp
  exact ⟨c, h1, hR _ _ h2, fun i u hu => hb.cell (h3 i u hu)⟩
theorem CI_up {w w1 : World} {A : Option Addr} {xs : List Int} (h : CI w A xs) (hb : Up w w1) : CI w1 A xs := reads_up h hb (fun _ _ hp => hp)
theorem CR_up {w w1 : World} {A : Option Addr} {xs : List (List Int)} (h : CR w A xs) (hb : Up w w1) : CR w1 A xs := reads_up h hb (fun _ _ hp => by
  obtain ⟨A0, c0, e, h1, h2⟩ := hp
  exact ⟨A0, c0, e, h1, reads_up h2 hb (fun _ _ hp => hp)⟩)
theorem CT_up {w w1 : World} {A : Option Addr} {xs : List (List S44)} (h : CT w A xs) (hb : Up w w1) : CT w1 A xs := reads_up h hb (fun _ _ hp => by
  obtain ⟨A0, c0, e, h1, h2⟩ := hp
  exact ⟨A0, c0, e, h1, reads_up h2 hb (fun _ _ hp => hp)⟩)
theorem SysC.up {w w1 : World} {s : Syst} {p : Ad} (h : SysC w s p) (hb : Up w w1) : SysC w1 s p := ⟨CT_up h.r0 hb, h.h0, CI_up h.r1 hb, h.h1, CI_up h.r2 hb, h.h2, CI_up h.r3 hb, h.h3, CI_up h.r4 hb, h.h4, CR_up h.r5 hb, h.h5⟩
def ob (A : Option Addr) : Option Nat := A.map (·.block)
theorem own_far {w : World} {base n c size : Nat} {e : TypeId} {A : Option Addr} {xs : List Value} (h : w.ownsRow base e size (.slice A n c) n xs) {p : Addr} (hp : ob A ≠ some p.block) (u : Value) : (w.setCell p u).ownsRow base e size (.slice A n c) n xs := by
  refine ⟨h.1, ?_⟩
  rcases h.2 with h1 | ⟨g, cap, cur, h1, h2, h3, h4, h5, h6, h7⟩
  · exact .inl h1
  · cases h1
    exact .inr ⟨g, _, cur, rfl, h2, blk_far h3 (fun hg => hp (by rw [← hg]; rfl)) u, h4, h5, h6, h7⟩
theorem row_slice {w : World} {base n : Nat} {e : TypeId} {v : Value} {xs : List Value} (h : w.ownsRow base e 1 v n xs) : ∃ A c, v = .slice A n c := by
  rcases h.2 with ⟨h1, h2⟩ | ⟨g, cap, cur, h1, _⟩
  · refine ⟨none, 0, ?_⟩
    rw [h1, h2]
  · exact ⟨_, _, h1⟩
/-- The row's inner rows are read in the world ahead. -/
def Inner (w0 : World) (us : List Value) (xs : List (List Int)) : Prop := ∀ (j : Nat) (x : List Int) (u : Value), xs[j]? = some x → us[j]? = some u → ∃ (A : Option Addr) (c : Nat), u = Value.slice A x.length c ∧ x.length ≤ c ∧ CI w0 A x
def CloneR0P (w0 : World) (l : List (List Int)) (w : World) (e : Ending) (w' : World) : Prop := ∃ A c us, e = .returned (.slice A l.length c) ∧ w'.ownsRow w.heap.size 23 1 (.slice A l.length c) l.length us ∧ Inner w0 us l ∧ Below w.heap.size w w'
set_option maxRecDepth 100000 in
set_option maxHeartbeats 4000000 in
theorem cloneR0_calls (A : Option Addr) (c : Nat) (l : List (List Int)) (w0 w : World) (hC0 : CR w0 A l) (hB0 : Up w0 w) (hm : l.length ≤ 100000) : Calls Try.prog 57 #[.slice A l.length c] w (CloneR0P w0 l w) := by
  have hC := CR_up hC0 hB0
  have HC0 := Aside0.mk hC0
  have HB0 := Aside0.mk hB0
  clear hC0 hB0
  have qT : ∀ (w : World) (a : Option Addr) (n c n' c' : Nat), (binOp .eql 24 (.slice a n c) (.slice none n' c')).run Try.prog w = .ok (.bool a.isNone) w := fun w a n c n' c' => Go.Lib.run_eql_slice_nil w _ _ a n c n' c' Try.underlying24
  have HC := Aside0.mk hC
  clear hC
  obtain ⟨i0, hi, hz0, hz1, hz2⟩ := info_parts info23
  cases A with
  | none =>
    obtain rfl := nil_of_none HC.out
    go_enter Try.func57, Try.ntmps57
    go_wp2
    go_ret
    exact ⟨none, 0, [], rfl, World.ownsRow_nil _ _ _ _, fun j x u hx => by simp at hx, Below.refl _ _⟩
  | some ad =>
    have hB := (Below.refl w.heap.size w).alloc (Nat.le_refl _) (.cells #[] 23)
    have HE := Aside0.mk (empty_row w 23 1)
    have HB := Aside0.mk hB
    obtain ⟨us, hul, hc, hk⟩ := CR_cells (Kd.C_below HC.out hB)
    have HUL := Aside0.mk hul
    have HUC := Aside0.mk hc
    have HUK := Aside0.mk hk
    clear hB hul hc hk
    go_enter Try.func57, Try.ntmps57
    go_wp2_with (at_builtin; refine hold ?_)
    refine ⟨?_⟩
    refine wpList_append_own _ rfl _ _ 24 rfl w.heap.size 23 i0 _ 1 24 Try.underlying24 hi hz0 hz1 hz2 rfl (by decide) _ 0 [] rfl HE.out ad l.length c us rfl (by rw [HUL.out, Nat.mul_one]) (fun j u hu => (HUC.out j u hu).1) (fun u hu => by obtain ⟨j, hj⟩ := List.mem_iff_getElem?.1 hu; exact (HUC.out j u hj).2) (Nat.le_trans (show 0 + l.length ≤ 100001 by omega) (by decide)) (by omega) HB.out.size ?_
    intro v1 w1 hown hgrow _
    rw [List.nil_append, Nat.zero_add] at hown
    have hb2 := HB.out.grown hgrow HB.out.size (fun k hk => by
      have hk2 : some w.heap.size = some k := hk
      injection hk2 with hk2
      omega)
    have hg : Below (w.alloc (.cells #[] 23)).heap.size (w.alloc (.cells #[] 23)) w1 ∨ True := .inr trivial
    have HP : Aside0 (CloneR0P w0 l w (.returned v1) w1) := ⟨by
      obtain ⟨B, d, rfl⟩ := row_slice hown
      exact ⟨B, d, us, rfl, hown, fun j x u hx hu => by
        obtain ⟨ad', A, c', e, h1, h2, h3⟩ := at_L3 HC0.out (j : Int) (by omega) (by have := (List.getElem?_eq_some_iff.1 hx).1; omega)
        injection e with e
        subst e
        rw [Int.toNat_natCast] at h1
        have hc2 := (HUC.out j u hu).1
        have h6 := pw_cell_below (HB.out) (HB0.out.cell h1)
        rw [hc2] at h6
        have e3 : rd_L3 l (j : Int) = x := by unfold rd_L3; rw [Int.toNat_natCast, List.getD_eq_getElem?_getD, hx]; rfl
        rw [e3] at h2 h3 h6
        rw [Option.some.inj h6]
        exact ⟨A, c', rfl, h2, h3⟩, hb2⟩⟩
    clear hown hgrow hb2 hg
    go_wp2
    go_ret
    exact HP.out
theorem ownR_C {w0 w : World} {base c : Nat} {A : Option Addr} {us : List Value} {xs : List (List Int)} (h : w.ownsRow base 23 1 (.slice A xs.length c) xs.length us) (hi : Inner w0 us xs) (hb : Up w0 w) : CR w A xs ∧ xs.length ≤ c := by
  obtain ⟨A', c', e, h1, h2⟩ := RowR.C (w := w) (base := base) (v := .slice A xs.length c) (us := us) (xs := xs) ⟨h, fun j x u hx hu => by obtain ⟨B, d, e, h1, h2⟩ := hi j x u hx hu; exact ⟨B, d, e, h1, CI_up h2 hb⟩⟩
  injection e with e1 e2 e3
  subst e1 e3
  exact ⟨h2, h1⟩
def Inner2 (w0 : World) (b : Nat) (w : World) (us : List Value) (xs : List (List Int)) : Prop := ∀ (j : Nat) (x : List Int) (u : Value), xs[j]? = some x → us[j]? = some u → ∃ (A : Option Addr) (c : Nat), u = Value.slice A x.length c ∧ x.length ≤ c ∧ (CI w0 A x ∨ RowI w b (.slice A x.length c) x)
/-- A system of the call's own: w0 the world ahead, b where its rows begin. -/
structure OwnS (w0 : World) (b : Nat) (w : World) (s : Syst) (p : Ad) (us : List Value) : Prop where
  th : CT w0 p.a0 s.th
  h0 : s.th.length ≤ p.c0
  r1 : RowI w b (.slice p.a1 s.at_.length p.c1) s.at_
  r2 : RowI w b (.slice p.a2 s.su.length p.c2) s.su
  r3 : RowI w b (.slice p.a3 s.lo.length p.c3) s.lo
  r4 : RowI w b (.slice p.a4 s.ce.length p.c4) s.ce
  r5 : w.ownsRow b 23 1 (.slice p.a5 s.ch.length p.c5) s.ch.length us
  inn : Inner w0 us s.ch
  d12 : ob p.a1 = ob p.a2 → ob p.a1 = none
  d13 : ob p.a1 = ob p.a3 → ob p.a1 = none
  d14 : ob p.a1 = ob p.a4 → ob p.a1 = none
  d15 : ob p.a1 = ob p.a5 → ob p.a1 = none
  d23 : ob p.a2 = ob p.a3 → ob p.a2 = none
  d24 : ob p.a2 = ob p.a4 → ob p.a2 = none
  d25 : ob p.a2 = ob p.a5 → ob p.a2 = none
  d34 : ob p.a3 = ob p.a4 → ob p.a3 = none
  d35 : ob p.a3 = ob p.a5 → ob p.a3 = none
  d45 : ob p.a4 = ob p.a5 → ob p.a4 = none
  bel : Up w0 w
  ge : w0.heap.size ≤ b
/-- The same at the end: a row of the channels may be the call's own. -/
structure FinS (w0 : World) (b : Nat) (w : World) (s : Syst) (p : Ad) (us : List Value) : Prop where
  th : CT w0 p.a0 s.th
  h0 : s.th.length ≤ p.c0
  r1 : RowI w b (.slice p.a1 s.at_.length p.c1) s.at_
  r2 : RowI w b (.slice p.a2 s.su.length p.c2) s.su
  r3 : RowI w b (.slice p.a3 s.lo.length p.c3) s.lo
  r4 : RowI w b (.slice p.a4 s.ce.length p.c4) s.ce
  r5 : w.ownsRow b 23 1 (.slice p.a5 s.ch.length p.c5) s.ch.length us
  inn : Inner2 w0 b w us s.ch
  bel : Up w0 w
  ge : w0.heap.size ≤ b
theorem OwnS.fin {w0 w : World} {b : Nat} {s : Syst} {p : Ad} {us : List Value} (h : OwnS w0 b w s p us) : FinS w0 b w s p us :=
  ⟨h.th, h.h0, h.r1, h.r2, h.r3, h.r4, h.r5, fun j x u hx hu => by obtain ⟨A, c, e, h1, h2⟩ := h.inn j x u hx hu; exact ⟨A, c, e, h1, .inl h2⟩, h.bel, h.ge⟩
theorem OwnS.below {w0 w w1 : World} {b : Nat} {s : Syst} {p : Ad} {us : List Value} (h : OwnS w0 b w s p us) (hb : Below w.heap.size w w1) : OwnS w0 b w1 s p us :=
  ⟨h.th, h.h0, below_row h.r1 hb, below_row h.r2 hb, below_row h.r3 hb, below_row h.r4 hb, below_row h.r5 hb, h.inn, h.d12, h.d13, h.d14, h.d15, h.d23, h.d24, h.d25, h.d34, h.d35, h.d45, h.bel.trans (up_below hb), h.ge⟩
theorem rowI_CI {w : World} {b c : Nat} {A : Option Addr} {xs : List Int} (h : RowI w b (.slice A xs.length c) xs) : CI w A xs ∧ xs.length ≤ c := by
  obtain ⟨A', c', e, h1, h2⟩ := rowI_C h
  injection e with e1 e2 e3
  subst e1 e3
  exact ⟨h2, h1⟩
theorem FinS.sys {w0 w : World} {b : Nat} {s : Syst} {p : Ad} {us : List Value} (h : FinS w0 b w s p us) : SysC w s p := by
  obtain ⟨A', c', e, h1, h2⟩ := RowR.C (w := w) (base := b) (v := .slice p.a5 s.ch.length p.c5) (us := us) (xs := s.ch) ⟨h.r5, fun j x u hx hu => by
    obtain ⟨B, d, e, h1, h2⟩ := h.inn j x u hx hu
    refine ⟨B, d, e, h1, ?_⟩
    rcases h2 with h2 | h2
    · exact CI_up h2 h.bel
    · exact (rowI_CI h2).1⟩
  injection e with e1 e2 e3
  exact ⟨CT_up h.th h.bel, h.h0, (rowI_CI h.r1).1, (rowI_CI h.r1).2, (rowI_CI h.r2).1, (rowI_CI h.r2).2, (rowI_CI h.r3).1, (rowI_CI h.r3).2, (rowI_CI h.r4).1, (rowI_CI h.r4).2, by rw [e1]; exact h2, by rw [e3]; exact h1⟩
theorem own_low {w : World} {base n c size : Nat} {e : TypeId} {A : Option Addr} {xs : List Value} (h : w.ownsRow base e size (.slice A n c) n xs) {p : Addr} (hp : p.block < base) (u : Value) : (w.setCell p u).ownsRow base e size (.slice A n c) n xs := by
  refine own_far h (fun he => ?_) u
  rcases h.2 with ⟨h1, _⟩ | ⟨g, cap, cur, h1, h2, _⟩
  · cases h1
    cases he
  · cases h1
    injection he with he
    have : g = p.block := he
    omega
/-- A cell of a box is written. -/
theorem FinS.box {w0 w : World} {b : Nat} {s : Syst} {p : Ad} {us : List Value} (h : FinS w0 b w s p us) {q : Addr} (hq : q.block < b) (hq2 : w0.heap.size ≤ q.block) (u : Value) : FinS w0 b (w.setCell q u) s p us :=
  ⟨h.th, h.h0, own_low h.r1 hq u, own_low h.r2 hq u, own_low h.r3 hq u, own_low h.r4 hq u, own_low h.r5 hq u, fun j x v hx hv => by
    obtain ⟨A, c, e, h1, h2⟩ := h.inn j x v hx hv
    exact ⟨A, c, e, h1, h2.imp id (fun h3 => own_low h3 hq u)⟩, h.bel.setCell hq2 _, h.ge⟩
theorem nums_set (k : IntKind) (xs : List Int) (j : Nat) (x : Int) : nums k (xs.set j x) = (nums k xs).set j (.int k x) := by simp [nums, List.map_set]
theorem nd1 {x y : Option Nat} {g : Nat} (h : x = y → x = none) (hx : x = some g) : y ≠ some g := fun e => by
  have h1 := h (hx.trans e.symm)
  rw [hx] at h1
  cases h1
theorem nd2 {x y : Option Nat} {g : Nat} (h : x = y → x = none) (hy : y = some g) : x ≠ some g := fun e => by
  have h1 := h (e.trans hy.symm)
  rw [e] at h1
  cases h1
theorem OwnS.set1 {w0 w : World} {b : Nat} {s : Syst} {p : Ad} {us : List Value} (h : OwnS w0 b w s p us) {g : Nat} (hg : p.a1 = some ⟨g, 0, none⟩) (j : Nat) (x : Int) : OwnS w0 b (w.setCell ⟨g, j, none⟩ (.int .i64 x)) { s with at_ := s.at_.set j x } p us := by
  have hge : b ≤ g := by
    have h1 := h.r1
    rw [hg] at h1
    obtain ⟨_, h2, _⟩ := own_open h1
    exact h2
  have ho : ob p.a1 = some g := by rw [hg]; rfl
  have hr : RowI (w.setCell ⟨g, j, none⟩ (.int .i64 x)) b (.slice p.a1 (s.at_.set j x).length p.c1) (s.at_.set j x) := by
    have h1 := h.r1
    rw [hg] at h1 ⊢
    have h2 := own_set h1 j (.int .i64 x)
    rw [List.length_set]
    unfold RowI
    rw [List.length_set, nums_set]
    exact h2
  exact { h with r1 := hr, r2 := own_far h.r2 (nd1 h.d12 ho) _, r3 := own_far h.r3 (nd1 h.d13 ho) _, r4 := own_far h.r4 (nd1 h.d14 ho) _, r5 := own_far h.r5 (nd1 h.d15 ho) _, bel := h.bel.setCell (Nat.le_trans h.ge hge) _ }
theorem OwnS.set2 {w0 w : World} {b : Nat} {s : Syst} {p : Ad} {us : List Value} (h : OwnS w0 b w s p us) {g : Nat} (hg : p.a2 = some ⟨g, 0, none⟩) (j : Nat) (x : Int) : OwnS w0 b (w.setCell ⟨g, j, none⟩ (.int .i64 x)) { s with su := s.su.set j x } p us := by
  have hge : b ≤ g := by
    have h1 := h.r2
    rw [hg] at h1
    obtain ⟨_, h2, _⟩ := own_open h1
    exact h2
  have ho : ob p.a2 = some g := by rw [hg]; rfl
  have hr : RowI (w.setCell ⟨g, j, none⟩ (.int .i64 x)) b (.slice p.a2 (s.su.set j x).length p.c2) (s.su.set j x) := by
    have h1 := h.r2
    rw [hg] at h1 ⊢
    have h2 := own_set h1 j (.int .i64 x)
    rw [List.length_set]
    unfold RowI
    rw [List.length_set, nums_set]
    exact h2
  exact { h with r2 := hr, r1 := own_far h.r1 (nd2 h.d12 ho) _, r3 := own_far h.r3 (nd1 h.d23 ho) _, r4 := own_far h.r4 (nd1 h.d24 ho) _, r5 := own_far h.r5 (nd1 h.d25 ho) _, bel := h.bel.setCell (Nat.le_trans h.ge hge) _ }
theorem OwnS.set3 {w0 w : World} {b : Nat} {s : Syst} {p : Ad} {us : List Value} (h : OwnS w0 b w s p us) {g : Nat} (hg : p.a3 = some ⟨g, 0, none⟩) (j : Nat) (x : Int) : OwnS w0 b (w.setCell ⟨g, j, none⟩ (.int .i64 x)) { s with lo := s.lo.set j x } p us := by
  have hge : b ≤ g := by
    have h1 := h.r3
    rw [hg] at h1
    obtain ⟨_, h2, _⟩ := own_open h1
    exact h2
  have ho : ob p.a3 = some g := by rw [hg]; rfl
  have hr : RowI (w.setCell ⟨g, j, none⟩ (.int .i64 x)) b (.slice p.a3 (s.lo.set j x).length p.c3) (s.lo.set j x) := by
    have h1 := h.r3
    rw [hg] at h1 ⊢
    have h2 := own_set h1 j (.int .i64 x)
    rw [List.length_set]
    unfold RowI
    rw [List.length_set, nums_set]
    exact h2
  exact { h with r3 := hr, r1 := own_far h.r1 (nd2 h.d13 ho) _, r2 := own_far h.r2 (nd2 h.d23 ho) _, r4 := own_far h.r4 (nd1 h.d34 ho) _, r5 := own_far h.r5 (nd1 h.d35 ho) _, bel := h.bel.setCell (Nat.le_trans h.ge hge) _ }
theorem OwnS.set4 {w0 w : World} {b : Nat} {s : Syst} {p : Ad} {us : List Value} (h : OwnS w0 b w s p us) {g : Nat} (hg : p.a4 = some ⟨g, 0, none⟩) (j : Nat) (x : Int) : OwnS w0 b (w.setCell ⟨g, j, none⟩ (.int .i64 x)) { s with ce := s.ce.set j x } p us := by
  have hge : b ≤ g := by
    have h1 := h.r4
    rw [hg] at h1
    obtain ⟨_, h2, _⟩ := own_open h1
    exact h2
  have ho : ob p.a4 = some g := by rw [hg]; rfl
  have hr : RowI (w.setCell ⟨g, j, none⟩ (.int .i64 x)) b (.slice p.a4 (s.ce.set j x).length p.c4) (s.ce.set j x) := by
    have h1 := h.r4
    rw [hg] at h1 ⊢
    have h2 := own_set h1 j (.int .i64 x)
    rw [List.length_set]
    unfold RowI
    rw [List.length_set, nums_set]
    exact h2
  exact { h with r4 := hr, r1 := own_far h.r1 (nd2 h.d14 ho) _, r2 := own_far h.r2 (nd2 h.d24 ho) _, r3 := own_far h.r3 (nd2 h.d34 ho) _, r5 := own_far h.r5 (nd1 h.d45 ho) _, bel := h.bel.setCell (Nat.le_trans h.ge hge) _ }
end Go.Proofs.Ythnimpbcfegmjaa.Own
/-
  What the instructions do, walked by hand: in a system of the call's own.
-/
namespace Go.Proofs.Ythnimpbcfegmjaa.Own
open Go.RowKit Go.Proofs.YthnimpbcfegmjaaW.PrintWords Go.Proofs.YthnimpbcfegmjaaW.PrintLast Go.Proofs.YthnimpbcfegmjaaW.PrintMore Go.Proofs.Ythnimpbcfegmjaa.P Go.Proofs.Ythnimpbcfegmjaa.Model
set_option linter.unusedVariables false

theorem OwnS.set5 {w0 w : World} {b : Nat} {s : Syst} {p : Ad} {us : List Value} (h : OwnS w0 b w s p us) {g : Nat} (hg : p.a5 = some ⟨g, 0, none⟩) (k : Nat) (x' : List Int) (A : Option Addr) (c : Nat) (hx : x'.length ≤ c)
    (hr : CI w0 A x' ∨ (RowI w b (.slice A x'.length c) x' ∧ ob A ≠ some g)) : FinS w0 b (w.setCell ⟨g, k, none⟩ (.slice A x'.length c)) { s with ch := s.ch.set k x' } p (us.set k (.slice A x'.length c)) := by
  have hge : b ≤ g := by
    have h1 := h.r5
    rw [hg] at h1
    obtain ⟨_, h2, _⟩ := own_open h1
    exact h2
  have ho : ob p.a5 = some g := by rw [hg]; rfl
  refine ⟨h.th, h.h0, own_far h.r1 (nd2 h.d15 ho) _, own_far h.r2 (nd2 h.d25 ho) _, own_far h.r3 (nd2 h.d35 ho) _, own_far h.r4 (nd2 h.d45 ho) _, ?_, ?_, h.bel.setCell (Nat.le_trans h.ge hge) _, h.ge⟩
  · have h1 := h.r5
    rw [hg] at h1 ⊢
    show World.ownsRow _ _ _ _ (.slice _ (s.ch.set k x').length _) (s.ch.set k x').length _
    rw [List.length_set]
    exact own_set h1 k _
  · intro j x u hj hu
    rw [List.getElem?_set] at hj hu
    by_cases hkj : k = j
    · rw [if_pos hkj] at hj hu
      split at hj
      · split at hu
        · cases hj
          cases hu
          refine ⟨A, c, rfl, hx, ?_⟩
          rcases hr with hr | ⟨hr, hn⟩
          · exact .inl hr
          · exact .inr (own_far hr hn _)
        · cases hu
      · cases hj
    · rw [if_neg hkj] at hj hu
      obtain ⟨B, d, e, h1, h2⟩ := h.inn j x u hj hu
      exact ⟨B, d, e, h1, .inl h2⟩
theorem rowI_at {w : World} {b c : Nat} {A : Option Addr} {xs : List Int} (h : RowI w b (.slice A xs.length c) xs) (k : Nat) (x : Int) (hx : xs[k]? = some x) : ∃ g, A = some ⟨g, 0, none⟩ ∧ b ≤ g ∧ w.cell? ⟨g, k, none⟩ = some (.int .i64 x) ∧ w.frozen? ⟨g, k, none⟩ = false := by
  have hk := (List.getElem?_eq_some_iff.1 hx).1
  rcases h.2 with ⟨_, h1⟩ | ⟨g, cap, cur, h1, _⟩
  · omega
  · cases h1
    obtain ⟨cur, h2, h3, _⟩ := own_open h
    exact ⟨g, rfl, h2, own_cell h (nums_get hx), blk_frozen h3 k⟩
def DoP (w0 : World) (b : Nat) (s : Syst) (p : Ad) (w : World) (e : Ending) (w' : World) : Prop := ∃ us, e = .returned (.tuple #[]) ∧ FinS w0 b w' s p us ∧ Below b w w'
theorem below_put {b g k : Nat} {w W : World} (h : Below b w W) (hg : b ≤ g) (v : Value) : Below b w (W.setCell ⟨g, k, none⟩ v) := h.setCell hg _
theorem FinS.drew {w0 w : World} {b : Nat} {s : Syst} {p : Ad} {us : List Value} (h : FinS w0 b w s p us) : FinS w0 b w.drew s p us :=
  ⟨h.th, h.h0, h.r1, h.r2, h.r3, h.r4, h.r5, h.inn, h.bel.drew, h.ge⟩
theorem OwnS.drew {w0 w : World} {b : Nat} {s : Syst} {p : Ad} {us : List Value} (h : OwnS w0 b w s p us) : OwnS w0 b w.drew s p us :=
  h.below (below_drew (Below.refl _ _))
theorem DoP.drew {w0 w w' : World} {b : Nat} {s : Syst} {p : Ad} {e : Ending} (h : DoP w0 b s p w e w') : DoP w0 b s p w e w'.drew := by
  obtain ⟨us, e, h1, h2⟩ := h
  exact ⟨us, e, h1.drew, below_drew h2⟩
set_option maxRecDepth 100000 in
set_option maxHeartbeats 4000000 in
theorem lock_calls (w0 : World) (b : Nat) (s : Syst) (p : Ad) (us : List Value) (t : Nat) (na n : Int) (w : World) (hO : OwnS w0 b w s p us) (hi : okI ⟨0, na, n⟩ = true) (h4 : s.lo.length = 4) (hb : b ≤ w.heap.size) : Calls Try.prog 64 #[.agg (sysA s p), .int .i64 t, iv ⟨0, na, n⟩] w (DoP w0 b (doI s t ⟨0, na, n⟩) p w) := by
  obtain ⟨_, _, h1, h2, _⟩ := okI_bounds hi
  dsimp only at h1 h2
  obtain ⟨k, rfl⟩ : ∃ k : Nat, na = k := ⟨na.toNat, by omega⟩
  have hlt : k < s.lo.length := by omega
  obtain ⟨x, hx⟩ : ∃ x, s.lo[k]? = some x := ⟨_, List.getElem?_eq_getElem hlt⟩
  have hB1 : Below w.heap.size w (w.alloc (.cells (sysA s p) 26)) := (Below.refl _ _).alloc (Nat.le_refl _) _
  have hB2 := hB1.alloc hB1.size (.cells #[.int .i64 0, .int .i64 k, .int .i64 n] 44)
  have hO2 := hO.below hB2
  obtain ⟨g, hg, hge, t0, t1⟩ := rowI_at hO2.r3 k x hx
  have hbb := below_put (k := k) (Below.mono hB2 hb) hge (.int .i64 t)
  have hd : doI s t ⟨0, k, n⟩ = { s with lo := s.lo.set k t } := by unfold doI; simp
  have HP : Aside0 (DoP w0 b (doI s t ⟨0, k, n⟩) p w (.returned (.tuple #[])) _) := ⟨⟨us, rfl, by rw [hd]; exact (hO2.set3 hg k t).fin, hbb⟩⟩
  obtain ⟨a0, c0, a1, c1, a2, c2, a3, c3, a4, c4, a5, c5⟩ := p
  unfold sysA at *
  dsimp only at *
  subst hg
  clear hO2 hbb hd hO hB1 hB2 hx hi h4 h2 hb
  go_enter Try.func64, Try.ntmps64
  go_wp2
  go_end0
  exact HP.out
set_option maxRecDepth 100000 in
set_option maxHeartbeats 4000000 in
theorem unlock_calls (w0 : World) (b : Nat) (s : Syst) (p : Ad) (us : List Value) (t : Nat) (na n : Int) (w : World) (hO : OwnS w0 b w s p us) (hi : okI ⟨1, na, n⟩ = true) (h4 : s.lo.length = 4) (hb : b ≤ w.heap.size) : Calls Try.prog 66 #[.agg (sysA s p), .int .i64 t, iv ⟨1, na, n⟩] w (DoP w0 b (doI s t ⟨1, na, n⟩) p w) := by
  obtain ⟨_, _, h1, h2, _⟩ := okI_bounds hi
  dsimp only at h1 h2
  obtain ⟨k, rfl⟩ : ∃ k : Nat, na = k := ⟨na.toNat, by omega⟩
  have hlt : k < s.lo.length := by omega
  obtain ⟨x, hx⟩ : ∃ x, s.lo[k]? = some x := ⟨_, List.getElem?_eq_getElem hlt⟩
  have hB1 : Below w.heap.size w (w.alloc (.cells (sysA s p) 26)) := (Below.refl _ _).alloc (Nat.le_refl _) _
  have hB2 := hB1.alloc hB1.size (.cells #[.int .i64 1, .int .i64 k, .int .i64 n] 44)
  have hO2 := hO.below hB2
  obtain ⟨g, hg, hge, t0, t1⟩ := rowI_at hO2.r3 k x hx
  by_cases hxt : x = t
  · have hbb := below_put (k := k) (Below.mono hB2 hb) hge (.int .i64 (-1))
    have hd : doI s t ⟨1, k, n⟩ = { s with lo := s.lo.set k (-1) } := by unfold doI; simp [hx, hxt]
    have HP : Aside0 (DoP w0 b (doI s t ⟨1, k, n⟩) p w (.returned (.tuple #[])) _) := ⟨⟨us, rfl, by rw [hd]; exact (hO2.set3 hg k (-1)).fin, hbb⟩⟩
    obtain ⟨a0, c0, a1, c1, a2, c2, a3, c3, a4, c4, a5, c5⟩ := p
    unfold sysA at *
    dsimp only at *
    subst hg hxt
    clear hO2 hbb hd hO hB1 hB2 hx hi h4 h2 hb
    go_enter Try.func66, Try.ntmps66
    go_wp2
    go_end0
    exact HP.out
  · have hd : doI s t ⟨1, k, n⟩ = s := by unfold doI; simp [hx, hxt]
    have HP : Aside0 (DoP w0 b (doI s t ⟨1, k, n⟩) p w (.returned (.tuple #[])) _) := ⟨⟨us, rfl, by rw [hd]; exact hO2.fin, Below.mono hB2 hb⟩⟩
    have d0 : (x == (t : Int)) = false := beq_eq_false_iff_ne.mpr hxt
    obtain ⟨a0, c0, a1, c1, a2, c2, a3, c3, a4, c4, a5, c5⟩ := p
    unfold sysA at *
    dsimp only at *
    subst hg
    clear hO2 hd hO hB1 hB2 hx hi h4 h2 hb
    go_enter Try.func66, Try.ntmps66
    go_wp2
    go_end0
    exact HP.out
set_option maxRecDepth 100000 in
set_option maxHeartbeats 4000000 in
theorem add_calls (w0 : World) (b : Nat) (s : Syst) (p : Ad) (us : List Value) (t : Nat) (na n : Int) (w : World) (hO : OwnS w0 b w s p us) (hi : okI ⟨2, na, n⟩ = true) (h4 : s.ce.length = 4) (hb : b ≤ w.heap.size) : Calls Try.prog 67 #[.agg (sysA s p), .int .i64 t, iv ⟨2, na, n⟩] w (DoP w0 b (doI s t ⟨2, na, n⟩) p w) := by
  obtain ⟨_, _, h1, h2, _⟩ := okI_bounds hi
  dsimp only at h1 h2
  obtain ⟨k, rfl⟩ : ∃ k : Nat, na = k := ⟨na.toNat, by omega⟩
  have hlt : k < s.ce.length := by omega
  obtain ⟨x, hx⟩ : ∃ x, s.ce[k]? = some x := ⟨_, List.getElem?_eq_getElem hlt⟩
  have hB1 : Below w.heap.size w (w.alloc (.cells (sysA s p) 26)) := (Below.refl _ _).alloc (Nat.le_refl _) _
  have hB2 := hB1.alloc hB1.size (.cells #[.int .i64 2, .int .i64 k, .int .i64 n] 44)
  have hO2 := hO.below hB2
  obtain ⟨g, hg, hge, t0, t1⟩ := rowI_at hO2.r4 k x hx
  have hbb := below_put (k := k) (Below.mono hB2 hb) hge (.int .i64 (wrap64 (x + n)))
  have hd : doI s t ⟨2, k, n⟩ = { s with ce := s.ce.set k (wrap64 (x + n)) } := by unfold doI; simp [hx]
  have HP : Aside0 (DoP w0 b (doI s t ⟨2, k, n⟩) p w (.returned (.tuple #[])) _) := ⟨⟨us, rfl, by rw [hd]; exact (hO2.set4 hg k _).fin, hbb⟩⟩
  obtain ⟨a0, c0, a1, c1, a2, c2, a3, c3, a4, c4, a5, c5⟩ := p
  unfold sysA at *
  dsimp only at *
  subst hg
  clear hO2 hbb hd hO hB1 hB2 hx hi h4 h2 hb
  go_enter Try.func67, Try.ntmps67
  go_wp2
  go_region
  go_wp2
  go_end0
  exact HP.out.drew
theorem own_at {w : World} {b n c : Nat} {e : TypeId} {A : Option Addr} {us : List Value} (h : w.ownsRow b e 1 (.slice A n c) n us) (k : Nat) (u : Value) (hu : us[k]? = some u) : ∃ g, A = some ⟨g, 0, none⟩ ∧ b ≤ g ∧ w.cell? ⟨g, k, none⟩ = some u ∧ w.frozen? ⟨g, k, none⟩ = false := by
  have hk := (List.getElem?_eq_some_iff.1 hu).1
  have hl := h.1
  rcases h.2 with ⟨_, h1⟩ | ⟨g, cap, cur, h1, _⟩
  · omega
  · cases h1
    obtain ⟨cur, h2, h3, _⟩ := own_open h
    exact ⟨g, rfl, h2, own_cell h hu, blk_frozen h3 k⟩
set_option maxRecDepth 100000 in
set_option maxHeartbeats 4000000 in
theorem recv_calls (w0 : World) (b : Nat) (s : Syst) (p : Ad) (us : List Value) (t : Nat) (na n : Int) (w : World) (hO : OwnS w0 b w s p us) (hi : okI ⟨4, na, n⟩ = true) (h4 : s.ch.length = 4) (ht : t < s.su.length) (hcan : canI s ⟨4, na, n⟩ = true) (hm : ∀ l, l ∈ s.ch → l.length ≤ 2) (hb : b ≤ w.heap.size) : Calls Try.prog 72 #[.agg (sysA s p), .int .i64 t, iv ⟨4, na, n⟩] w (DoP w0 b (doI s t ⟨4, na, n⟩) p w) := by
  obtain ⟨_, _, h1, h2, _⟩ := okI_bounds hi
  dsimp only at h1 h2
  obtain ⟨k, rfl⟩ : ∃ k : Nat, na = k := ⟨na.toNat, by omega⟩
  have hlt : k < s.ch.length := by omega
  obtain ⟨y, hy⟩ : ∃ y, s.ch[k]? = some y := ⟨_, List.getElem?_eq_getElem hlt⟩
  obtain ⟨x, hx⟩ : ∃ x, s.su[t]? = some x := ⟨_, List.getElem?_eq_getElem ht⟩
  have hy0 : 0 < y.length := by unfold canI at hcan; simpa [hy] using hcan
  have hy2 := hm y (List.mem_of_getElem? hy)
  obtain ⟨z, hz⟩ : ∃ z, y[0]? = some z := ⟨_, List.getElem?_eq_getElem hy0⟩
  have hul : us.length = s.ch.length := by have := hO.r5.1; omega
  obtain ⟨u, hu⟩ : ∃ u, us[k]? = some u := ⟨_, List.getElem?_eq_getElem (by omega)⟩
  obtain ⟨A, c, rfl, hyc, hA⟩ := hO.inn k y u hy hu
  obtain ⟨g, hg, hge, t0, t1⟩ := rowI_at hO.r2 t x hx
  obtain ⟨g5, hg5, hge5, t50, t51⟩ := own_at hO.r5 k _ hu
  have hgl : g < w.heap.size := World.block_lt_of_cell? w _ t0
  have hgl5 : g5 < w.heap.size := World.block_lt_of_cell? w _ t50
  have hne : g5 ≠ g := fun e => nd1 hO.d25 (by rw [hg]; rfl) (by rw [hg5, e]; rfl)
  obtain ⟨ad, rfl, v0⟩ := Kd.at_int (CI_up hA hO.bel) (0 : Int) (by omega) (by omega)
  have hz' : rd y 0 = z := by have := rdI hz; simpa using this
  rw [hz', show ad.add (Int.toNat 0) = ad from by cases ad; first | rfl | simp [Addr.add]] at v0
  have hB1 : Below w.heap.size w (w.alloc (.cells (sysA s p) 26)) := (Below.refl _ _).alloc (Nat.le_refl _) _
  have hB2 := hB1.alloc hB1.size (.cells #[.int .i64 4, .int .i64 k, .int .i64 n] 44)
  have hO2 := hO.below hB2
  have t0' := pw_cell_below hB2 t0
  have t50' := pw_cell_below hB2 t50
  have v0' := pw_cell_below hB2 v0
  obtain ⟨g', hg', _, _, t1'⟩ := rowI_at hO2.r2 t x hx
  obtain rfl : g = g' := by rw [hg] at hg'; injection hg' with hg'; injection hg'
  have hO1 := hO.set2 hg t (wrap64 (x + z))
  have hB5 : Below b w (w.setCell ⟨g, t, none⟩ (.int .i64 (wrap64 (x + z)))) := below_put (k := t) (Below.refl _ _) hge (.int .i64 (wrap64 (x + z)))
  have hBa : Below (w.setCell ⟨g, t, none⟩ (.int .i64 (wrap64 (x + z)))).heap.size (w.setCell ⟨g, t, none⟩ (.int .i64 (wrap64 (x + z)))) ((w.setCell ⟨g, t, none⟩ (.int .i64 (wrap64 (x + z)))).alloc (.cells (sysA s p) 26)) := (Below.refl _ _).alloc (Nat.le_refl _) _
  have hBb := hBa.alloc hBa.size (.cells #[.int .i64 4, .int .i64 k, .int .i64 n] 44)
  have hO3 := (hO1.below hBb).drew
  have hB3 := below_drew (hB5.trans (hBb.mono (Nat.le_trans hb hB5.size)))
  have HO3 := Aside0.mk hO3
  have HB3 := Aside0.mk hB3
  have HD : Aside0 (doI s t ⟨4, k, n⟩ = { s with su := s.su.set t (wrap64 (x + z)), ch := s.ch.set k (y.drop 1) }) := ⟨by unfold doI; simp [hy, hx, hz]⟩
  obtain ⟨a0, c0, a1, c1, a2, c2, a3, c3, a4, c4, a5, c5⟩ := p
  unfold sysA at *
  dsimp only at *
  subst hg hg5
  have HHA := Aside0.mk hA
  have HHY := Aside0.mk hy
  have HHU := Aside0.mk hu
  clear hO3 hB3 hO1 hB5 hBa hBb hO2 hO hB1 hB2 hx hi h4 h2 hb t0 t50 t51 v0 hul hu hz hz' hA hcan hm hy t1 hg'
  go_enter Try.func72, Try.ntmps72
  go_wp2
  go_region
  obtain ⟨g5', e5', _, t5, f5⟩ := own_at HO3.out.r5 k _ HHU.out
  have e5'' : g5 = g5' := by injection e5' with e5'; injection e5'
  subst e5''
  obtain ⟨A', hA', hcut⟩ : ∃ A', CI w0 A' (y.drop 1) ∧ ∀ W, (Instr.slice 23 (.slice (some ad) y.length c) (some (.int .i64 1)) none none).run Try.prog W = .ok (.slice A' (y.drop 1).length (c - 1)) W := by
    obtain ⟨i0, hi, _, hz0, _⟩ := info_parts info3
    refine ⟨_, Kd.C_drop HHA.out (m := 1) (by omega) hyc, fun W => ?_⟩
    rw [List.length_drop]
    exact cut_from (P := Try.prog) 23 3 .i64 Try.underlying23 hi 1 hz0 (some ad) y.length c 1 (by omega) (by omega) W
  have hfin := HO3.out.set5 rfl k (y.drop 1) A' (c - 1) (by rw [List.length_drop]; omega) (.inl hA')
  have hbb := below_put (k := k) HB3.out hge5 (.slice A' (y.drop 1).length (c - 1))
  have HP : Aside0 (DoP w0 b (doI s t ⟨4, k, n⟩) _ w (.returned (.tuple #[])) _) := ⟨⟨_, rfl, by rw [HD.out]; exact hfin, hbb⟩⟩
  generalize y.drop 1 = Y at *
  clear t0' t50' v0' t1' e5' hfin hbb hgl hgl5 HO3 HB3 hA'
  try dsimp only at t5 f5
  go_wp2
  go_region
  go_wp2
  go_end0
  exact HP.out.drew
end Go.Proofs.Ythnimpbcfegmjaa.Own
/-
  ISend, walked by hand.
-/
namespace Go.Proofs.Ythnimpbcfegmjaa.Own
open Go.RowKit Go.Proofs.YthnimpbcfegmjaaW.PrintWords Go.Proofs.YthnimpbcfegmjaaW.PrintLast Go.Proofs.YthnimpbcfegmjaaW.PrintMore Go.Proofs.Ythnimpbcfegmjaa.P Go.Proofs.Ythnimpbcfegmjaa.Model
set_option linter.unusedVariables false
set_option linter.unusedSimpArgs false

theorem cells_of {w : World} {q : Addr} {y : List Int} (h : CI w (some q) y) (j : Nat) (u : Value) (hj : (nums .i64 y)[j]? = some u) : w.cell? (q.add j) = some u := by
  have hl := (List.getElem?_eq_some_iff.1 hj).1
  rw [nums_length] at hl
  obtain ⟨x, hx⟩ : ∃ x, y[j]? = some x := ⟨_, List.getElem?_eq_getElem hl⟩
  rw [nums_get hx] at hj
  cases hj
  obtain ⟨ad, e, h1⟩ := Kd.at_int h (j : Int) (by omega) (by omega)
  injection e with e
  subst e
  rw [rdI hx, Int.toNat_natCast] at h1
  exact h1
theorem one_cell {w : World} {g : Nat} {x : Int} (hb : w.heap[g]? = some (.cells #[.int .i64 x] 3 (0, 0))) (j : Nat) (u : Value) (hj : [Value.int .i64 x][j]? = some u) : w.cell? ((⟨g, 0, none⟩ : Addr).add j) = some u := by
  match j, hj with
  | 0, hj => rw [add_plain, blk_cell hb]; exact hj
theorem row_app {w : World} {b n : Nat} {A : Option Addr} {c : Nat} {y : List Int} {x : Int} (h : w.ownsRow b 3 1 (.slice A n c) n (nums .i64 y ++ [.int .i64 x])) : RowI w b (.slice A (y ++ [x]).length c) (y ++ [x]) := by
  have h1 := h.1
  rw [List.length_append, nums_length, Nat.mul_one] at h1
  have h2 : (y ++ [x]).length = n := by rw [List.length_append]; exact h1
  unfold RowI
  rw [h2]
  have h3 : nums .i64 (y ++ [x]) = nums .i64 y ++ [.int .i64 x] := by simp [nums]
  rw [h3]
  exact h
set_option maxRecDepth 100000 in
set_option maxHeartbeats 4000000 in
theorem send_calls (w0 : World) (b : Nat) (s : Syst) (p : Ad) (us : List Value) (t : Nat) (na n : Int) (w : World) (hO : OwnS w0 b w s p us) (hi : okI ⟨3, na, n⟩ = true) (h4 : s.ch.length = 4) (hm : ∀ l, l ∈ s.ch → l.length ≤ 2) (hb : b ≤ w.heap.size) : Calls Try.prog 69 #[.agg (sysA s p), .int .i64 t, iv ⟨3, na, n⟩] w (DoP w0 b (doI s t ⟨3, na, n⟩) p w) := by
  obtain ⟨_, _, h1, h2, _⟩ := okI_bounds hi
  dsimp only at h1 h2
  obtain ⟨k, rfl⟩ : ∃ k : Nat, na = k := ⟨na.toNat, by omega⟩
  have hlt : k < s.ch.length := by omega
  obtain ⟨y, hy⟩ : ∃ y, s.ch[k]? = some y := ⟨_, List.getElem?_eq_getElem hlt⟩
  have hy2 := hm y (List.mem_of_getElem? hy)
  have hul : us.length = s.ch.length := by have := hO.r5.1; omega
  obtain ⟨u, hu⟩ : ∃ u, us[k]? = some u := ⟨_, List.getElem?_eq_getElem (by omega)⟩
  obtain ⟨A, c, rfl, hyc, hA⟩ := hO.inn k y u hy hu
  obtain ⟨g5, hg5, hge5, t50, t51⟩ := own_at hO.r5 k _ hu
  have hB1 : Below w.heap.size w (w.alloc (.cells (sysA s p) 26)) := (Below.refl _ _).alloc (Nat.le_refl _) _
  have hB2 := hB1.alloc hB1.size (.cells #[.int .i64 3, .int .i64 k, .int .i64 n] 44)
  have HO2 := Aside0.mk (hO.below hB2)
  have HB2 := Aside0.mk (Below.mono hB2 hb)
  have HBB := Aside0.mk hb
  have t5 := pw_cell_below hB2 t50
  have f5 : ((w.alloc (.cells (sysA s p) 26)).alloc (.cells #[.int .i64 3, .int .i64 k, .int .i64 n] 44)).frozen? ⟨g5, k, none⟩ = false := by
    obtain ⟨g5', e5', _, _, f5⟩ := own_at HO2.out.r5 k _ hu
    have e5'' : g5 = g5' := by rw [hg5] at e5'; injection e5' with e5'; injection e5'
    rw [e5'']; exact f5
  have HA := Aside0.mk (CI_up hA HO2.out.bel)
  have HD : Aside0 (doI s t ⟨3, k, n⟩ = { s with ch := s.ch.set k (y ++ [n]) }) := ⟨by unfold doI; simp [hy]⟩
  have HHU := Aside0.mk hu
  have HQ : Aside0 (((w.alloc (.cells (sysA s p) 26)).alloc (.cells #[.int .i64 3, .int .i64 k, .int .i64 n] 44)).heap[w.heap.size]? = some (.cells (sysA s p) 26 (0, 0))) := ⟨blk_alloc (blk_new w _) _⟩
  have HI : Aside0 (((w.alloc (.cells (sysA s p) 26)).alloc (.cells #[.int .i64 3, .int .i64 k, .int .i64 n] 44)).heap[w.heap.size + 1]? = some (.cells #[.int .i64 3, .int .i64 k, .int .i64 n] 44 (0, 0))) := ⟨by
    have h1 := blk_new (w.alloc (.cells (sysA s p) 26)) (.cells #[.int .i64 3, .int .i64 k, .int .i64 n] 44)
    have hsz : (w.alloc (.cells (sysA s p) 26)).heap.size = w.heap.size + 1 := by simp
    rw [hsz] at h1
    exact h1⟩
  obtain ⟨a0, c0, a1, c1, a2, c2, a3, c3, a4, c4, a5, c5⟩ := p
  unfold sysA at *
  dsimp only at *
  subst hg5
  clear hO hB1 hB2 hi h4 h2 hb t50 t51 hul hu hA hm hy
  go_enter Try.func69, Try.ntmps69
  go_wp2
  have q5 : ((w.alloc (.cells #[.slice a0 s.th.length c0, .slice a1 s.at_.length c1, .slice a2 s.su.length c2, .slice a3 s.lo.length c3, .slice a4 s.ce.length c4, .slice (some ⟨g5, 0, none⟩) s.ch.length c5] 26)).alloc (.cells #[.int .i64 3, .int .i64 k, .int .i64 n] 44)).cell? ⟨w.heap.size, 5, none⟩ = some (.slice (some ⟨g5, 0, none⟩) s.ch.length c5) := blk_cell HQ.out 5
  have i1 : ((w.alloc (.cells #[.slice a0 s.th.length c0, .slice a1 s.at_.length c1, .slice a2 s.su.length c2, .slice a3 s.lo.length c3, .slice a4 s.ce.length c4, .slice (some ⟨g5, 0, none⟩) s.ch.length c5] 26)).alloc (.cells #[.int .i64 3, .int .i64 k, .int .i64 n] 44)).cell? ⟨w.heap.size + 1, 1, none⟩ = some (.int .i64 k) := blk_cell HI.out 1
  have i2 : ((w.alloc (.cells #[.slice a0 s.th.length c0, .slice a1 s.at_.length c1, .slice a2 s.su.length c2, .slice a3 s.lo.length c3, .slice a4 s.ce.length c4, .slice (some ⟨g5, 0, none⟩) s.ch.length c5] 26)).alloc (.cells #[.int .i64 3, .int .i64 k, .int .i64 n] 44)).cell? ⟨w.heap.size + 1, 2, none⟩ = some (.int .i64 n) := blk_cell HI.out 2
  generalize (w.alloc (.cells #[.slice a0 s.th.length c0, .slice a1 s.at_.length c1, .slice a2 s.su.length c2, .slice a3 s.lo.length c3, .slice a4 s.ce.length c4, .slice (some ⟨g5, 0, none⟩) s.ch.length c5] 26)).alloc (.cells #[.int .i64 3, .int .i64 k, .int .i64 n] 44) = w2 at *
  refine start_ (n := 17) (S := fun w' => w'.cell? ⟨w.heap.size, 5, none⟩ = some (.slice (some ⟨g5, 0, none⟩) s.ch.length c5) ∧ w'.cell? ⟨w.heap.size + 1, 1, none⟩ = some (.int .i64 k) ∧ w'.cell? ⟨w.heap.size + 1, 2, none⟩ = some (.int .i64 n) ∧ w'.cell? ⟨g5, k, none⟩ = some (.slice A y.length c)) (ds := [16]) #[false, false, false, false, false, false, false, false, false, false, false, false, false, false, false, false, false] (by kernel_rfl) rfl rfl ⟨q5, i1, i2, t5⟩ (fun hHeld => ?_)
  have HO3 := Aside0.mk HO2.out.drew
  have HB3 := Aside0.mk (below_drew HB2.out)
  have HA3 := Aside0.mk (Kd.C_below HA.out (below_drew (Below.refl w2.heap.size w2)))
  clear q5 i1 i2 t5 f5 HQ HI HA HO2 HB2
  generalize w2.drew = w3 at *
  refine pure_ (i := 0) (N := some 6) (v := ?_) (a' := ?_) #[true, false, false, false, false, false, false, false, false, false, false, false, false, false, false, false, false] rfl rfl (by kernel_rfl) (fun _ _ _ h => h) (Or.inl ⟨by rfl, ?_⟩) ?_ ?_
  rotate_left
  · intro w'
    go_simp
    with_reducible rfl
  rotate_left
  · simp only [Act.put, List.setIfInBounds_toArray, List.set_cons_zero, List.set_cons_succ, i64_w, i32_w]
    rfl
  refine pure_ (i := 2) (N := some 8) (v := ?_) (a' := ?_) #[true, false, true, false, false, false, false, false, false, false, false, false, false, false, false, false, false] rfl rfl (by kernel_rfl) (fun _ _ _ h => h) (Or.inl ⟨by rfl, ?_⟩) ?_ ?_
  rotate_left
  · intro w'
    go_simp
    with_reducible rfl
  rotate_left
  · simp only [Act.put, List.setIfInBounds_toArray, List.set_cons_zero, List.set_cons_succ, i64_w, i32_w]
    rfl
  refine pure_ (i := 4) (N := some 10) (v := ?_) (a' := ?_) #[true, false, true, false, true, false, false, false, false, false, false, false, false, false, false, false, false] rfl rfl (by kernel_rfl) (fun _ _ _ h => h) (Or.inl ⟨by rfl, ?_⟩) ?_ ?_
  rotate_left
  · intro w'
    go_simp
    with_reducible rfl
  rotate_left
  · simp only [Act.put, List.setIfInBounds_toArray, List.set_cons_zero, List.set_cons_succ, i64_w, i32_w]
    rfl
  refine pure_ (i := 6) (N := some 12) (v := ?_) (a' := ?_) #[true, false, true, false, true, false, true, false, false, false, false, false, false, false, false, false, false] rfl rfl (by kernel_rfl) (fun _ _ _ h => h) (Or.inl ⟨by rfl, ?_⟩) ?_ ?_
  rotate_left
  · intro w'
    go_simp
    with_reducible rfl
  rotate_left
  · simp only [Act.put, List.setIfInBounds_toArray, List.set_cons_zero, List.set_cons_succ, i64_w, i32_w]
    rfl
  refine pure_ (i := 11) (N := some 17) (v := ?_) (a' := ?_) #[true, false, true, false, true, false, true, false, false, false, false, true, false, false, false, false, false] rfl rfl (by kernel_rfl) (fun _ _ _ h => h) (Or.inl ⟨by rfl, ?_⟩) ?_ ?_
  rotate_left
  · intro w'
    go_simp
    with_reducible rfl
  rotate_left
  · simp only [Act.put, List.setIfInBounds_toArray, List.set_cons_zero, List.set_cons_succ, i64_w, i32_w]
    rfl
  refine take_ (i := 1) (N := some 7) (v := ?_) (a' := ?_) #[true, true, true, false, true, false, true, false, false, false, false, true, false, false, false, false, false] rfl rfl (by kernel_rfl) (fun _ _ _ h => h) (Or.inl ⟨by rfl, ?_⟩) hHeld ?_ ?_
  rotate_left
  · rintro w' ⟨s0, s1, s2, s3⟩
    go_simp
    with_reducible rfl
  rotate_left
  · simp only [Act.put, List.setIfInBounds_toArray, List.set_cons_zero, List.set_cons_succ, i64_w, i32_w]
    rfl
  refine take_ (i := 3) (N := some 9) (v := ?_) (a' := ?_) #[true, true, true, true, true, false, true, false, false, false, false, true, false, false, false, false, false] rfl rfl (by kernel_rfl) (fun _ _ _ h => h) (Or.inl ⟨by rfl, ?_⟩) hHeld ?_ ?_
  rotate_left
  · rintro w' ⟨s0, s1, s2, s3⟩
    go_simp
    with_reducible rfl
  rotate_left
  · simp only [Act.put, List.setIfInBounds_toArray, List.set_cons_zero, List.set_cons_succ, i64_w, i32_w]
    rfl
  refine take_ (i := 5) (N := some 11) (v := ?_) (a' := ?_) #[true, true, true, true, true, true, true, false, false, false, false, true, false, false, false, false, false] rfl rfl (by kernel_rfl) (fun _ _ _ h => h) (Or.inl ⟨by rfl, ?_⟩) hHeld ?_ ?_
  rotate_left
  · rintro w' ⟨s0, s1, s2, s3⟩
    go_simp
    with_reducible rfl
  rotate_left
  · simp only [Act.put, List.setIfInBounds_toArray, List.set_cons_zero, List.set_cons_succ, i64_w, i32_w]
    rfl
  refine take_ (i := 7) (N := some 13) (v := ?_) (a' := ?_) #[true, true, true, true, true, true, true, true, false, false, false, true, false, false, false, false, false] rfl rfl (by kernel_rfl) (fun _ _ _ h => h) (Or.inl ⟨by rfl, ?_⟩) hHeld ?_ ?_
  rotate_left
  · rintro w' ⟨s0, s1, s2, s3⟩
    go_simp
    with_reducible rfl
  rotate_left
  · simp only [Act.put, List.setIfInBounds_toArray, List.set_cons_zero, List.set_cons_succ, i64_w, i32_w]
    rfl
  refine take_ (i := 12) (N := some 18) (v := ?_) (a' := ?_) #[true, true, true, true, true, true, true, true, false, false, false, true, true, false, false, false, false] rfl rfl (by kernel_rfl) (fun _ _ _ h => h) (Or.inl ⟨by rfl, ?_⟩) hHeld ?_ ?_
  rotate_left
  · rintro w' ⟨s0, s1, s2, s3⟩
    go_simp
    with_reducible rfl
  rotate_left
  · simp only [Act.put, List.setIfInBounds_toArray, List.set_cons_zero, List.set_cons_succ, i64_w, i32_w]
    rfl
  refine pure_ (i := 8) (N := some 14) (v := ?_) (a' := ?_) #[true, true, true, true, true, true, true, true, true, false, false, true, true, false, false, false, false] rfl rfl (by kernel_rfl) (fun _ _ _ h => h) (Or.inl ⟨by rfl, ?_⟩) ?_ ?_
  rotate_left
  · intro w'
    go_simp
    with_reducible rfl
  rotate_left
  · simp only [Act.put, List.setIfInBounds_toArray, List.set_cons_zero, List.set_cons_succ, i64_w, i32_w]
    rfl
  refine take_ (i := 9) (N := some 15) (v := ?_) (a' := ?_) #[true, true, true, true, true, true, true, true, true, true, false, true, true, false, false, false, false] rfl rfl (by kernel_rfl) (fun _ _ _ h => h) (Or.inl ⟨by rfl, ?_⟩) hHeld ?_ ?_
  rotate_left
  · rintro w' ⟨s0, s1, s2, s3⟩
    go_simp
    with_reducible rfl
  rotate_left
  · simp only [Act.put, List.setIfInBounds_toArray, List.set_cons_zero, List.set_cons_succ, i64_w, i32_w]
    rfl
  refine join_ (σ := Unit) 3 #[true, true, true, true, true, true, true, true, true, true, true, true, true, true, false, false, false] (fun _ => [(16, .slice A y.length y.length), (19, .slice (some ⟨w3.heap.size, 0, none⟩) 1 1)]) (fun _ w' => w' = w3.alloc (.cells #[.int .i64 n] 3)) ?_ ?_
  rotate_left
  · intro hc
    refine two_ (i := 10) (j := 13) (Ni := some 16) (Nj := some 19) #[true, true, true, true, true, true, true, true, true, true, true, true, true, false, false, false, false] #[true, true, true, true, true, true, true, true, true, true, false, true, true, true, false, false, false] rfl rfl rfl rfl (by kernel_rfl) (by decide) (by decide) (fun K hK => ?_) (fun K hK => ?_)
    · refine goes_ Try.func70 (by kernel_rfl) rfl #[.slice A y.length c] (by rfl) rfl rfl (by (try simp only [List.map_toArray, List.map_cons, List.map_nil]); first | done | rfl) ?_
      refine (clip_calls A y.length c _ hyc (by omega)).mono ?_
      rintro e w' ⟨rfl, rfl⟩
      refine ⟨_, rfl, ?_⟩
      refine hK.out _ _ hHeld (fun hHeld => ?_)
      clear hK K
      refine one_ (i := 13) (N := some 19) #[true, true, true, true, true, true, true, true, true, true, true, true, true, true, false, false, false] rfl rfl (by kernel_rfl) (by decide) (fun K hK => ?_)
      refine value_ (v := .slice (some ⟨w3.heap.size, 0, none⟩) 1 1) (w1 := w3.alloc (.cells #[.int .i64 n] 3)) (by rfl) rfl (by go_simp) ?_
      have hb4 : Below w3.heap.size w3 (w3.alloc (.cells #[.int .i64 n] 3)) := (Below.refl _ _).alloc (Nat.le_refl _) _
      refine hK.out _ _ ⟨pw_cell_below hb4 hHeld.1, pw_cell_below hb4 hHeld.2.1, pw_cell_below hb4 hHeld.2.2.1, pw_cell_below hb4 hHeld.2.2.2⟩ (fun hHeld => hc () _ rfl)
    · refine value_ (v := .slice (some ⟨w3.heap.size, 0, none⟩) 1 1) (w1 := w3.alloc (.cells #[.int .i64 n] 3)) (by rfl) rfl (by go_simp) ?_
      have hb4 : Below w3.heap.size w3 (w3.alloc (.cells #[.int .i64 n] 3)) := (Below.refl _ _).alloc (Nat.le_refl _) _
      refine hK.out _ _ ⟨pw_cell_below hb4 hHeld.1, pw_cell_below hb4 hHeld.2.1, pw_cell_below hb4 hHeld.2.2.1, pw_cell_below hb4 hHeld.2.2.2⟩ (fun hHeld => ?_)
      clear hK K
      refine one_ (i := 10) (N := some 16) #[true, true, true, true, true, true, true, true, true, true, true, true, true, true, false, false, false] rfl rfl (by kernel_rfl) (by decide) (fun K hK => ?_)
      refine goes_ Try.func70 (by kernel_rfl) rfl #[.slice A y.length c] (by rfl) rfl rfl (by (try simp only [List.map_toArray, List.map_cons, List.map_nil]); first | done | rfl) ?_
      refine (clip_calls A y.length c _ hyc (by omega)).mono ?_
      rintro e w' ⟨rfl, rfl⟩
      refine ⟨_, rfl, ?_⟩
      refine hK.out _ _ hHeld (fun hHeld => norm_ ?_ (hc () _ rfl))
      show Act.put (Act.put _ (some 19) _) (some 16) _ = Act.put (Act.put _ (some 16) _) (some 19) _
      simp only [Act.put, List.setIfInBounds_toArray, List.set_cons_zero, List.set_cons_succ]
  rintro _ _ rfl
  refine norm_ (a' := ?_) ?_ ?_
  rotate_left
  · show Act.put (Act.put _ (some 16) _) (some 19) _ = _
    simp only [Act.put, List.setIfInBounds_toArray, List.set_cons_zero, List.set_cons_succ, i64_w, i32_w]
    rfl
  have hb4 : Below w3.heap.size w3 (w3.alloc (.cells #[.int .i64 n] 3)) := (Below.refl _ _).alloc (Nat.le_refl _) _
  replace hHeld := And.intro (pw_cell_below hb4 hHeld.1) (And.intro (pw_cell_below hb4 hHeld.2.1) (And.intro (pw_cell_below hb4 hHeld.2.2.1) (pw_cell_below hb4 hHeld.2.2.2)))
  have HO4 := Aside0.mk (HO3.out.below hb4)
  have HB4 := Aside0.mk (HB3.out.trans (hb4.mono (Nat.le_trans HBB.out HB3.out.size)))
  have HA4 := Aside0.mk (Kd.C_below HA3.out hb4)
  have HN4 := Aside0.mk (blk_new w3 (.cells #[.int .i64 n] 3))
  clear hb4 HO3 HB3 HA3
  refine one_ (i := 14) (N := some 20) #[true, true, true, true, true, true, true, true, true, true, true, true, true, true, true, false, false] rfl rfl (by kernel_rfl) (by decide) (fun K hK => ?_)
  obtain ⟨i0, hi, hz0, hz1, hz2⟩ := info_parts info3
  refine step_append_grows rfl _ _ 23 rfl 3 i0 _ 1 8 Try.underlying23 hi hz0 hz1 hz2 rfl (by decide) A y.length y.length (nums .i64 y) (by rfl) (fun e => by subst e; have := nil_of_none HA4.out; subst this; exact ⟨rfl, rfl⟩) (by rw [nums_length, Nat.mul_one]) (fun q e j u hj => by subst e; exact cells_of HA4.out j u hj) ⟨w3.heap.size, 0, none⟩ 1 1 [.int .i64 n] (by rfl) rfl (fun j u hj => one_cell HN4.out j u hj) (by simp [Value.oneCell']) (by omega) (Nat.le_trans (show y.length + 1 ≤ 1000 by omega) (by decide)) (by omega) ?_
  intro v1 w4 hown hgrow
  obtain ⟨A4, c4', rfl⟩ := row_slice hown
  have hb5 : Below (w3.alloc (.cells #[.int .i64 n] 3)).heap.size (w3.alloc (.cells #[.int .i64 n] 3)) w4 := (Below.refl _ _).grown hgrow (Nat.le_refl _) (fun k hk => by cases hk)
  refine hK.out _ _ ⟨pw_cell_below hb5 hHeld.1, pw_cell_below hb5 hHeld.2.1, pw_cell_below hb5 hHeld.2.2.1, pw_cell_below hb5 hHeld.2.2.2⟩ (fun hHeld => ?_)
  have HO5 := Aside0.mk (HO4.out.below hb5)
  have HBW := Aside0.mk HB4.out.size
  have HB5 := Aside0.mk (HB4.out.trans (hb5.mono (Nat.le_trans HBB.out HB4.out.size)))
  have HR5 := Aside0.mk (row_app hown)
  have HG5 : Aside0 (g5 < (w3.alloc (.cells #[.int .i64 n] 3)).heap.size) := ⟨by
    obtain ⟨_, e, _, h1, _⟩ := own_at HO4.out.r5 k _ HHU.out
    injection e with e
    injection e with e
    rw [e]
    exact World.block_lt_of_cell? _ _ h1⟩
  clear hb5 hown hgrow HO4 HA4 HN4 HB4
  clear hK K
  refine norm_ (a' := ?_) ?_ ?_
  rotate_left
  · show Act.put _ (some 20) _ = _
    simp only [Act.put, List.setIfInBounds_toArray, List.set_cons_zero, List.set_cons_succ, i64_w, i32_w]
    rfl
  refine pure_ (i := 15) (N := some 21) (v := ?_) (a' := ?_) #[true, true, true, true, true, true, true, true, true, true, true, true, true, true, true, true, false] rfl rfl (by kernel_rfl) (fun _ _ _ h => h) (Or.inl ⟨by rfl, ?_⟩) ?_ ?_
  rotate_left
  · intro w'
    go_simp
    with_reducible rfl
  rotate_left
  · simp only [Act.put, List.setIfInBounds_toArray, List.set_cons_zero, List.set_cons_succ, i64_w, i32_w]
    rfl
  refine last_ (i := 16) (N := none) #[true, true, true, true, true, true, true, true, true, true, true, true, true, true, true, true, true] rfl rfl (by kernel_rfl) (by decide) (fun K hK => ?_)
  obtain ⟨g5', e5', _, t5, f5⟩ := own_at HO5.out.r5 k _ HHU.out
  have e5'' : g5 = g5' := by injection e5' with e5'; injection e5'
  subst e5''
  refine skip_ (w1 := ?_) (by rfl) rfl ?_ ?_
  rotate_left
  · go_simp
    rfl
  refine hK.out _ _ ?_
  clear hK K
  refine done_ (by kernel_rfl) ?_
  have hlen : (y ++ [n]).length = y.length + 1 := by simp
  have hc4 : y.length + 1 ≤ c4' := by have := (rowI_CI HR5.out).2; omega
  have hge4 : ob A4 ≠ some g5 := by
    intro e
    rcases HR5.out.2 with ⟨h1, _⟩ | ⟨g, cap, cur, h1, h2, _⟩
    · injection h1 with h1
      rw [h1] at e
      cases e
    · injection h1 with h1
      rw [h1] at e
      injection e with e
      have e' : g = g5 := e
      have := HG5.out
      omega
  have hfin := HO5.out.set5 rfl k (y ++ [n]) A4 c4' (by omega) (.inr ⟨own_weaken HR5.out (Nat.le_trans HBB.out HBW.out), hge4⟩)
  rw [hlen] at hfin
  have HP : Aside0 (DoP w0 b (doI s t ⟨3, k, n⟩) _ w (.returned (.tuple #[])) _) := ⟨⟨_, rfl, by rw [HD.out]; exact hfin, below_put (k := k) HB5.out hge5 _⟩⟩
  clear hfin hc4 hlen hge4
  go_end0
  exact HP.out
end Go.Proofs.Ythnimpbcfegmjaa.Own

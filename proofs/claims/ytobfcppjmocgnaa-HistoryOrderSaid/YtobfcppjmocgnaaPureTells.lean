/-
  No two calls are at once: the code's test and the reference's are the same, of a history that may be.
-/
import Derived.Test.YtobfcppjmocgnaaRefAlone
import Derived.Test.YtobfcppjmocgnaaPureRight
namespace Go.Proofs.Ytobfcppjmocgnaa.Own
open Go.RowKit Go.Shelf Go.Proofs.YtobfcppjmocgnaaW.PrintWords Go.Proofs.YtobfcppjmocgnaaW.PrintLast Go.Proofs.Ytobfcppjmocgnaa.P
set_option linter.unusedVariables false

theorem spTo_any (l : List S53) (hd : Nat → Option Addr × Nat) (f : SP → Bool) (k : Nat) (hk : k ≤ l.length) : (spTo l hd k).any f = (List.range k).any (fun j => (spOf l hd j (l.getD j z53)).any f) := by
  induction k with
  | zero => rfl
  | succ k ih =>
    have hx : l[k]? = some (l.getD k z53) := by rw [List.getD_eq_getElem?_getD, List.getElem?_eq_getElem hk]; rfl
    rw [spTo_succ hx, List.any_append, ih (by omega), List.range_succ, List.any_append]
    simp
theorem from_ge {l : List S53} {hd : Nat → Option Addr × Nat} {m : Nat} {cl : Int} {y : E} (h : fromE l hd m cl = some y) : m ≤ y.1 := by
  have := (List.mem_filter.mp (head_mem h)).2
  simp [sel] at this
  omega
theorem bad_f1 {m : Nat} {y x : S53} (h : bad m y x = false) : x.f1 = ((m % 2 : Nat) : Int) := by
  unfold bad at h
  simp only [Bool.or_eq_false_iff] at h
  simpa using h.1
theorem bad_f2 {m : Nat} {y x : S53} (h : bad m y x = false) : x.f2 = ((m / 2 : Nat) : Int) := by
  unfold bad at h
  simp only [Bool.or_eq_false_iff] at h
  simpa using h.2.1
theorem good_next {l : List S53} {k : Nat} (h1 : good l k) (h2 : good l (k + 1)) (hk : k + 1 < l.length) (hc : (l.getD (k + 1) z53).f0 = (l.getD k z53).f0) (h0 : (l.getD k z53).f1 = 0) : (l.getD (k + 1) z53).f1 = 1 := by
  have e1 := bad_f1 h1.2
  have e2 := bad_f1 h2.2
  rw [hc, pf_succ l _ k (by omega), if_pos rfl, List.length_append, List.length_singleton] at e2
  omega
theorem spanV_f4 (x : S53) (k : Nat) (o : Option E) : (spanV x k o).f4 = k := by cases o <;> rfl
theorem alone_same (l : List S53) (hd : Nat → Option Addr × Nat) (ho : okH l = true) : (spTo l hd l.length).any (fun p => alB l.length p.1) = (List.range l.length).any (badA l) := by
  have hg := ((okH_good l).mp ho).1
  rw [spTo_any l hd _ l.length (Nat.le_refl _)]
  have key : ∀ k, k < l.length → (spOf l hd k (l.getD k z53)).any (fun p => alB l.length p.1) = badA l k := by
    intro k hk
    have gk := hg k hk
    unfold spOf badA
    by_cases h0 : (l.getD k z53).f1 = 0
    · rw [if_pos h0, h0]
      simp only [List.any_cons, List.any_nil, Bool.or_false, beq_self_eq_true, Bool.true_and]
      unfold alB
      rw [spanV_f4]
      by_cases hn : k + 1 < l.length
      · have hx : l[k + 1]? = some (l.getD (k + 1) z53) := by rw [List.getD_eq_getElem?_getD, List.getElem?_eq_getElem hn]; rfl
        have hs := from_step (hd := hd) (cl := (l.getD k z53).f0) hx
        have he : nextE l hd k (l.getD k z53) = fromE l hd (k + 1) (l.getD k z53).f0 := rfl
        rw [he, hs, decide_eq_true hn, Bool.true_and, show ((k : Int) != (l.length : Int) - 1) = true from by simp; omega, Bool.and_true]
        by_cases hc : (l.getD (k + 1) z53).f0 = (l.getD k z53).f0
        · have g1 := good_next gk (hg (k + 1) hn) hn hc h0
          rw [if_pos hc, hc, g1]
          simp [spanV]
        · rw [if_neg hc, show ((l.getD (k + 1) z53).f0 != (l.getD k z53).f0) = true from by simpa using hc, Bool.true_or]
          cases hf : fromE l hd (k + 1 + 1) (l.getD k z53).f0 with
          | none => simp [spanV]; omega
          | some y =>
            have := from_ge hf
            simp [spanV]; omega
      · rw [decide_eq_false hn, Bool.false_and, show ((k : Int) != (l.length : Int) - 1) = false from by simp; omega, Bool.and_false]
    · rw [if_neg h0, show ((l.getD k z53).f1 == 0) = false from beq_eq_false_iff_ne.mpr h0]
      rfl
  rw [Bool.eq_iff_iff, List.any_eq_true, List.any_eq_true]
  constructor
  · rintro ⟨k, hk, h⟩; exact ⟨k, hk, by rw [← key k (List.mem_range.mp hk)]; exact h⟩
  · rintro ⟨k, hk, h⟩; exact ⟨k, hk, by rw [key k (List.mem_range.mp hk)]; exact h⟩
theorem numbers_same (l : List Int) (hl : l.length ≤ 9223372036854775807) : downpourref01_Numbers.f (l.length + 1) l l = some true := by
  have h : ∀ (d k i : Nat), i + d = l.length → d < k → downpourref01_Numbers.l0 k l l (l.length : Int) i = some true := by
    intro d
    induction d with
    | zero =>
      intro k i hi hk
      obtain ⟨k, rfl⟩ : ∃ m, k = m + 1 := ⟨k - 1, by omega⟩
      simp only [downpourref01_Numbers.l0]
      rw [if_neg (by omega)]
    | succ d ih =>
      intro k i hi hk
      obtain ⟨k, rfl⟩ : ∃ m, k = m + 1 := ⟨k - 1, by omega⟩
      have h := ih k (i + 1) (by omega) (by omega)
      have hw : wrap64 ((i : Int) + 1) = ((i + 1 : Nat) : Int) := by unfold wrap64; omega
      simp only [downpourref01_Numbers.l0]
      rw [hw, h]
      clear hw
      rw [if_pos (by omega), if_pos (by omega), if_pos (by omega), if_pos (by omega), if_pos trivial]
  unfold downpourref01_Numbers.f
  rw [if_pos rfl]
  exact h l.length _ 0 (by omega) (by omega)
theorem ints_of {w : World} {base : Nat} {v : Value} {xs : List Int} (h : w.ownsRow base 3 1 v xs.length (xs.map (Value.int .i64))) : ∃ A c, v = .slice A xs.length c ∧ xs.length ≤ c ∧ Kd.C (Kd.int .i64) w A xs.length xs :=
  Kd.R_reads (Kd.R_of_own (e := 3) (ok := fun _ => True) h (fun _ _ => trivial))
theorem numbers_calls (A B : Option Addr) (c d : Nat) (l : List Int) (w : World) (h1 : Kd.C (Kd.int .i64) w A l.length l) (h2 : l.length ≤ c) (h3 : Kd.C (Kd.int .i64) w B l.length l) (h4 : l.length ≤ d) :
    Calls Try.prog 19 #[.slice A l.length c, .slice B l.length d] w fun e w' => e = .returned (.bool true) ∧ Below w.heap.size w w' :=
  (downpourref01_Numbers.calls (l.length + 1) A c l B d l true w h1 h2 h3 h4 (numbers_same l h1.2.1)).mono fun _ _ h => ⟨h.1, h.2.below⟩
end Go.Proofs.Ytobfcppjmocgnaa.Own

/-
  The reference's set and channel: plain, and their contracts outside hidden blocks.
-/
import Derived.Test.YthnimpbcfegmjaaA3
import Derived.Test.YthnimpbcfegmjaaPx11
import Derived.Test.YthnimpbcfegmjaaPz0
namespace Go.Proofs.Ythnimpbcfegmjaa.Own
open Go.RowKit Go.Proofs.YthnimpbcfegmjaaW.PrintWords Go.Proofs.YthnimpbcfegmjaaW.PrintLast Go.Proofs.YthnimpbcfegmjaaW.PrintMore Go.Proofs.Ythnimpbcfegmjaa.P Go.Proofs.Ythnimpbcfegmjaa.Model
set_option linter.unusedVariables false

theorem set_step {α : Type} (l : List α) (a i : Nat) (x y : α) (hy : l[i]? = some y) (p : List α) (hp : p = (l.set a x).take i) : p ++ [if i = a then x else y] = (l.set a x).take (i + 1) := by
  have hi := (List.getElem?_eq_some_iff.1 hy).1
  rw [List.take_add_one, ← hp]
  congr 1
  by_cases h : i = a
  · subst h
    rw [if_pos rfl, List.getElem?_set_self hi]
    rfl
  · rw [if_neg h, List.getElem?_set_ne (Ne.symm h), hy]
    rfl
theorem set_loop (l : List Int) (a : Nat) (x : Int) (hl : l.length ≤ 1000) : ∀ (n i k : Nat) (p : List Int), n = l.length - i → i ≤ l.length → n < k → p = (l.set a x).take i → downpourref20_set.l0 k (a : Int) x p l (l.length : Int) (i : Int) = some (l.set a x) := by
  intro n
  induction n with
  | zero =>
    intro i k p hn hi hk hp
    obtain ⟨k, rfl⟩ : ∃ k', k = k' + 1 := ⟨k - 1, by omega⟩
    unfold downpourref20_set.l0
    rw [if_neg (by omega), hp, List.take_of_length_le (by rw [List.length_set]; omega)]
  | succ n ih =>
    intro i k p hn hi hk hp
    obtain ⟨k, rfl⟩ : ∃ k', k = k' + 1 := ⟨k - 1, by omega⟩
    unfold downpourref20_set.l0
    have hlt : i < l.length := by omega
    obtain ⟨y, hy⟩ : ∃ y, l[i]? = some y := ⟨_, List.getElem?_eq_getElem hlt⟩
    have hpl : p.length ≤ i := by rw [hp, List.length_take]; omega
    have e1 : rd l (i : Int) = y := rdI hy
    have e2 := set_step l a i x y hy p hp
    have e3 : wrap64 ((i : Int) + 1) = ((i + 1 : Nat) : Int) := by unfold wrap64; omega
    rw [if_pos (by omega), if_pos (by omega), if_pos (by omega), e1, e3]
    by_cases h : i = a
    · rw [if_pos (by omega), if_pos (by omega)]
      rw [if_pos h] at e2
      exact ih (i + 1) k _ (by omega) (by omega) (by omega) e2
    · rw [if_neg (by omega), if_pos (by omega)]
      rw [if_neg h] at e2
      exact ih (i + 1) k _ (by omega) (by omega) (by omega) e2
theorem set_f (l : List Int) (a : Nat) (x : Int) (hl : l.length ≤ 1000) : downpourref20_set.f 1001 l (a : Int) x = some (l.set a x) := set_loop l a x hl l.length 0 1001 [] rfl (Nat.zero_le _) (by omega) (by simp)
theorem chan_loop (l : List (List Int)) (a : Nat) (x : List Int) (hl : l.length ≤ 1000) : ∀ (n i k : Nat) (p : List (List Int)), n = l.length - i → i ≤ l.length → n < k → p = (l.set a x).take i → downpourref20_channel.l0 k (a : Int) x p l (l.length : Int) (i : Int) = some (l.set a x) := by
  intro n
  induction n with
  | zero =>
    intro i k p hn hi hk hp
    obtain ⟨k, rfl⟩ : ∃ k', k = k' + 1 := ⟨k - 1, by omega⟩
    unfold downpourref20_channel.l0
    rw [if_neg (by omega), hp, List.take_of_length_le (by rw [List.length_set]; omega)]
  | succ n ih =>
    intro i k p hn hi hk hp
    obtain ⟨k, rfl⟩ : ∃ k', k = k' + 1 := ⟨k - 1, by omega⟩
    unfold downpourref20_channel.l0
    have hlt : i < l.length := by omega
    obtain ⟨y, hy⟩ : ∃ y, l[i]? = some y := ⟨_, List.getElem?_eq_getElem hlt⟩
    have hpl : p.length ≤ i := by rw [hp, List.length_take]; omega
    have e1 : rd_L3 l (i : Int) = y := by unfold rd_L3; rw [Int.toNat_natCast, List.getD_eq_getElem?_getD, hy]; rfl
    have e2 := set_step l a i x y hy p hp
    have e3 : wrap64 ((i : Int) + 1) = ((i + 1 : Nat) : Int) := by unfold wrap64; omega
    rw [if_pos (by omega), if_pos (by omega), if_pos (by omega), e1, e3]
    by_cases h : i = a
    · rw [if_pos (by omega), if_pos (by omega)]
      rw [if_pos h] at e2
      exact ih (i + 1) k _ (by omega) (by omega) (by omega) e2
    · rw [if_neg (by omega), if_pos (by omega)]
      rw [if_neg h] at e2
      exact ih (i + 1) k _ (by omega) (by omega) (by omega) e2
theorem chan_f (l : List (List Int)) (a : Nat) (x : List Int) (hl : l.length ≤ 1000) : downpourref20_channel.f 1001 l (a : Int) x = some (l.set a x) := chan_loop l a x hl l.length 0 1001 [] rfl (Nat.zero_le _) (by omega) (by simp)
theorem rowI_len {w : World} {base n c : Nat} {A : Option Addr} {xs : List Int} (h : RowI w base (.slice A n c) xs) : n = xs.length := by
  rcases h.2 with ⟨h1, h2⟩ | ⟨g, cap, cur, h1, _⟩
  · injection h1 with _ h1
    omega
  · injection h1
/-- set, outside the hidden blocks. -/
theorem set_calls (Q : Nat → Bool) (A : Option Addr) (c : Nat) (l : List Int) (a : Nat) (x : Int) (W : World) (hC : CI (hid Q W) A l) (hc : l.length ≤ c) (hl : l.length ≤ 1000) (hQ : ∀ k, Q k = true → k < W.heap.size) : Calls Try.prog 53 #[.slice A l.length c, .int .i64 (a : Int), .int .i64 x] W (fun e w' => ∃ B d, e = .returned (.slice B l.length d) ∧ l.length ≤ d ∧ CI (hid Q w') B (l.set a x) ∧ Below W.heap.size W w') :=
  (downpourref20_set.calls 1001 A c l (a : Int) x (l.set a x) W (CI_up hC (hid_up Q W)) hc (set_f l a x hl)).mono (by
    rintro e w' ⟨v, rfl, hR, hb⟩
    have hr := R_rowI hR
    obtain ⟨B, d, rfl⟩ := row_slice hr
    obtain ⟨h1, h2⟩ := rowI_CI (w := hid Q w') (b := W.heap.size) (hid_row hr hQ)
    rw [List.length_set] at h2
    exact ⟨B, d, by rw [List.length_set], h2, h1, hb⟩)
theorem CR_cells2 {w w1 : World} {A : Option Addr} {xs : List (List Int)} (h : CR w A xs) (hb : ∀ {a : Addr} {v : Value}, w.cell? a = some v → w1.cell? a = some v) : CR w1 A xs := reads_cells h hb (fun _ _ hp => by
  obtain ⟨A0, c0, e, h1, h2⟩ := hp
  exact ⟨A0, c0, e, h1, reads_cells h2 hb (fun _ _ hp => hp)⟩)
theorem agree_cell {Q : Nat → Bool} {W W' : World} (hW : ∀ k, (Q k = false ∧ k < W.heap.size) → k < W.heap.size → W'.heap[k]? = W.heap[k]?) {a : Addr} {v : Value} (ha : (hid Q W).cell? a = some v) : W'.cell? a = some v := by
  obtain ⟨h1, h2⟩ := hid_cell ha
  have hlt := World.block_lt_of_cell? W a h2
  exact (World.cell?_of_block (w := W) (hW _ ⟨h1, hlt⟩ hlt)).trans h2
/-- channel, outside the hidden blocks. -/
theorem chan_calls (Q : Nat → Bool) (A : Option Addr) (c : Nat) (l : List (List Int)) (a : Nat) (A2 : Option Addr) (c2 : Nat) (x : List Int) (W : World) (hC : CR (hid Q W) A l) (hc : l.length ≤ c) (hx : CI (hid Q W) A2 x) (hc2 : x.length ≤ c2) (hl : l.length ≤ 1000) (hQ : ∀ k, Q k = true → k < W.heap.size) : Calls Try.prog 54 #[.slice A l.length c, .int .i64 (a : Int), .slice A2 x.length c2] W (fun e w' => ∃ B d, e = .returned (.slice B l.length d) ∧ l.length ≤ d ∧ CR (hid Q w') B (l.set a x) ∧ Below W.heap.size W w') :=
  (downpourref20_channel.calls 1001 (fun k => Q k = false ∧ k < W.heap.size) A c l (a : Int) (fun k => Q k = false ∧ k < W.heap.size) A2 c2 x (l.set a x) W (Kd.V_mk hc (fun W' hW => CR_cells2 hC (agree_cell hW))) (Kd.V_mk hc2 (fun W' hW => reads_cells hx (agree_cell hW) (fun _ _ hp => hp))) (chan_f l a x hl)).mono (by
    rintro e w' ⟨v, rfl, hN, hb⟩
    obtain ⟨B, d, rfl, hd, -⟩ := Kd.N_reads hN
    have hF := Kd.N_F hN (hid Q w') (fun k hk _ => hid_at (by
      rcases hk with (hk | hk) | hk
      · exact hk.1
      · exact hk.1
      · cases hq : Q k with
        | false => rfl
        | true => have := hQ k hq; omega))
    rw [List.length_set] at hd
    exact ⟨B, d, by rw [List.length_set], hd, by
      show Kd.C _ _ _ _ _
      exact hF, hb⟩)
end Go.Proofs.Ythnimpbcfegmjaa.Own

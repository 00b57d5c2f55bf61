/-
  Worlds with some blocks hidden: what is read in one lies outside those blocks.
-/
import Derived.Test.YthnimpbcfegmjaaS9
namespace Go.Proofs.Ythnimpbcfegmjaa.Own
open Go.RowKit Go.Proofs.YthnimpbcfegmjaaW.PrintWords Go.Proofs.YthnimpbcfegmjaaW.PrintLast Go.Proofs.YthnimpbcfegmjaaW.PrintMore Go.Proofs.Ythnimpbcfegmjaa.P Go.Proofs.Ythnimpbcfegmjaa.Model
set_option linter.unusedVariables false
set_option linter.unusedSimpArgs false

def hid (P : Nat → Bool) (w : World) : World := { w with heap := w.heap.mapIdx fun k o => if P k = true then .cells #[] 26 (0, 0) else o }
theorem hid_size (P : Nat → Bool) (w : World) : (hid P w).heap.size = w.heap.size := by simp [hid]
theorem hid_at {P : Nat → Bool} {w : World} {k : Nat} (h : P k = false) : (hid P w).heap[k]? = w.heap[k]? := by
  simp only [hid, Array.getElem?_mapIdx, h]
  cases w.heap[k]? <;> rfl
theorem hid_off {P : Nat → Bool} {w : World} {k : Nat} (h : P k = true) (a : Addr) (ha : a.block = k) : (hid P w).cell? a = none := by
  unfold World.cell?
  rw [ha]
  simp only [hid, Array.getElem?_mapIdx, h]
  cases w.heap[k]? with
  | none => rfl
  | some o => simp
theorem hid_cell {P : Nat → Bool} {w : World} {a : Addr} {v : Value} (h : (hid P w).cell? a = some v) : P a.block = false ∧ w.cell? a = some v := by
  cases hp : P a.block with
  | true => rw [hid_off hp a rfl] at h; cases h
  | false => exact ⟨rfl, by rw [← h]; exact (World.cell?_of_block (w := w) (hid_at hp)).symm⟩
theorem hid_on {P : Nat → Bool} {w : World} {a : Addr} {v : Value} (hp : P a.block = false) (h : w.cell? a = some v) : (hid P w).cell? a = some v := (World.cell?_of_block (w := w) (hid_at hp)).trans h
theorem hid_up (P : Nat → Bool) (w : World) : Up (hid P w) w := ⟨fun h => (hid_cell h).2, by rw [hid_size]; exact Nat.le_refl _⟩
/-- Worlds rise; what is hidden later was hidden, or is new. -/
theorem up_hid {P Q : Nat → Bool} {w w1 : World} (hb : Below w.heap.size w w1) (hq : ∀ k, k < w.heap.size → Q k = true → P k = true) : Up (hid P w) (hid Q w1) := by
  refine ⟨fun {a v} h => ?_, by rw [hid_size, hid_size]; exact hb.size⟩
  obtain ⟨h1, h2⟩ := hid_cell h
  refine hid_on ?_ (pw_cell_below hb h2)
  cases hq2 : Q a.block with
  | false => rfl
  | true =>
    have := hq _ (World.block_lt_of_cell? w a h2) hq2
    rw [h1] at this
    cases this
theorem up_hid_put {P : Nat → Bool} {w : World} {q : Addr} (hq : P q.block = true) (u : Value) : Up (hid P w) (hid P (w.setCell q u)) := by
  refine ⟨fun {a v} h => ?_, by rw [hid_size, hid_size]; simp⟩
  obtain ⟨h1, h2⟩ := hid_cell h
  refine hid_on h1 ((cell_ne w (fun e => ?_) u).trans h2)
  rw [e, hq] at h1
  cases h1
theorem hid_none (w : World) : Up w (hid (fun _ => false) w) := ⟨fun h => hid_on rfl h, by rw [hid_size]; exact Nat.le_refl _⟩
/-- A world, and one with new blocks of which some are hidden. -/
theorem up_new {Q : Nat → Bool} {w w1 : World} (hb : Below w.heap.size w w1) (hq : ∀ k, Q k = true → w.heap.size ≤ k) : Up w (hid Q w1) := (hid_none w).trans (up_hid hb (fun k hk h => by have := hq k h; omega))
theorem hid_row {P : Nat → Bool} {w : World} {b n c size : Nat} {e : TypeId} {A : Option Addr} {xs : List Value} (h : w.ownsRow b e size (.slice A n c) n xs) (hP : ∀ k, P k = true → k < b) : (hid P w).ownsRow b e size (.slice A n c) n xs := by
  refine ⟨h.1, ?_⟩
  rcases h.2 with h1 | ⟨g, cap, cur, h1, h2, h3, h4⟩
  · exact .inl h1
  · refine .inr ⟨g, cap, cur, h1, h2, ?_, h4⟩
    rw [hid_at]
    · exact h3
    · cases hp : P g with
      | false => rfl
      | true => have := hP g hp; omega
theorem FinS.hid {P : Nat → Bool} {w W : World} {b : Nat} {s : Syst} {p : Ad} {us : List Value} (h : FinS (hid P w) b W s p us) (hP : ∀ k, P k = true → k < b) (hb : Below w.heap.size w W) : SysC (hid P W) s p := by
  have hu : Up (Own.hid P w) (Own.hid P W) := up_hid hb (fun _ _ h => h)
  have hf : FinS (Own.hid P w) b (Own.hid P W) s p us := ⟨h.th, h.h0, hid_row h.r1 hP, hid_row h.r2 hP, hid_row h.r3 hP, hid_row h.r4 hP, hid_row h.r5 hP, fun j x u hx hv => by
    obtain ⟨A, c, e, h1, h2⟩ := h.inn j x u hx hv
    refine ⟨A, c, e, h1, h2.imp id (fun h3 => ?_)⟩
    subst e
    exact hid_row h3 hP, hu, h.ge⟩
  exact hf.sys
end Go.Proofs.Ythnimpbcfegmjaa.Own

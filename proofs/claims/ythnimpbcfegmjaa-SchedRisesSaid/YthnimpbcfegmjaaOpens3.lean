/-
  Arguments opened: what a reading says of the cells, in the print's kinds.
-/
import Derived.Test.YthnimpbcfegmjaaRows
import Derived.Test.YthnimpbcfegmjaaA1
import Derived.ProofKit
import Derived.OpenShut
import Derived.Deep.Slices
import Derived.Deep.Fields
import Derived.ChangeSame
namespace Go.Proofs.Ythnimpbcfegmjaa.Own
open Go.ChangeShapes Go.WideShapes Go.ChangeAt Go.RowKit Go.Deep
open Go.Proofs.YthnimpbcfegmjaaW.PrintWords Go.Proofs.YthnimpbcfegmjaaW.PrintLast Go.Proofs.Ythnimpbcfegmjaa.P
set_option linter.unusedVariables false

/-- What reads as type T reads as kind d, and its value is as Q says. -/
def Opens (T : TypeId) {α : Type} (d : Kd α) (Q : α → Prop) : Prop :=
  ∀ (H : Type) (enc : TypeId × Value → H) (w : World) (base : Nat) (spare : Nat → Bool) (held : Bool) (fuel : Nat) (cs : List Value) (x : DataW H × List MemPlace), DataW.trod enc Try.prog w base spare held fuel T cs = some x → ∃ a, d.K w a cs ∧ Q a
theorem opens_int {T : TypeId} {k : IntKind} (hu : Try.prog.underlying T = some (.int k)) : Opens T (Kd.int k) (fun n => (Lit.int k n).wf = true) := by
  intro H enc w base spare held fuel cs x h
  obtain ⟨n, rfl, _, hw⟩ := DataW.trod_int hu h
  exact ⟨n, rfl, hw⟩
theorem opens_string {T : TypeId} (hu : Try.prog.underlying T = some .string) : Opens T Kd.string (fun _ => True) := by
  intro H enc w base spare held fuel cs x h
  obtain ⟨s, rfl, _, _⟩ := DataW.trod_string hu h
  exact ⟨s, rfl, trivial⟩
theorem list_of {α : Type} (f : Nat → Option α) : ∀ len : Nat, (∀ i, i < len → ∃ z, f i = some z) → ∃ l : List α, l.length = len ∧ ∀ i z, l[i]? = some z → i < len ∧ f i = some z
  | 0, _ => ⟨[], rfl, fun i z hz => by simp at hz⟩
  | len + 1, hex => by
    obtain ⟨l, hl, h1⟩ := list_of f len (fun i hil => hex i (by omega))
    obtain ⟨z, hz⟩ := hex len (by omega)
    refine ⟨l ++ [z], by simp [hl], fun i z' hz' => ?_⟩
    rcases Nat.lt_or_ge i l.length with hlt | hge
    · rw [List.getElem?_append_left hlt] at hz'
      have := h1 i z' hz'
      exact ⟨by omega, this.2⟩
    · rw [List.getElem?_append_right hge] at hz'
      have : i - l.length = 0 := by
        rcases Nat.eq_zero_or_pos (i - l.length) with h | h
        · exact h
        · rw [List.getElem?_eq_none (by simp; omega)] at hz'; cases hz'
      rw [this] at hz'
      simp only [List.getElem?_cons_zero, Option.some.injEq] at hz'
      subst hz'
      have e : i = len := by omega
      exact ⟨by omega, e ▸ hz⟩
theorem opens_slice {T e : TypeId} {α : Type} {d : Kd α} {Q : α → Prop} (hu : Try.prog.underlying T = some (.slice e)) (he : Opens e d Q) (hs : Try.prog.cellsOf e = d.sz) : Opens T (Kd.slice e d) (fun l => ∀ x ∈ l, Q x) := by
  intro H enc w base spare held fuel cs x h
  rcases open_slice hu h with ⟨rfl, _⟩ | ⟨a, len, cap, m, n, D, Pl, rfl, _, hlc, hcm, hm, _, hi⟩
  · exact ⟨[], ⟨none, 0, rfl, Nat.le_refl _, ⟨rfl, by simp, fun h => absurd h (Nat.lt_irrefl 0)⟩⟩, fun x hx => by cases hx⟩
  · have key : ∀ i, ∃ y : Option α, i < len → ∃ z, y = some z ∧ Q z ∧ ∃ c, c.length = d.sz ∧ d.K w z c ∧ ∀ j u, c[j]? = some u → w.cell? (a.add (i * d.sz + j)) = some u := by
      intro i
      by_cases hil : i < len
      · obtain ⟨cs', hc, ht⟩ := hi i (by rw [hm]; split <;> omega)
        obtain ⟨z, hz, hq⟩ := he H enc w base spare held n cs' _ ht
        obtain ⟨_, hcl, hat⟩ := World.cells?_some hc
        refine ⟨some z, fun _ => ⟨z, rfl, hq, cs', hcl.trans hs, hz, fun j u hu => ?_⟩⟩
        obtain ⟨hj, rfl⟩ := List.getElem?_eq_some_iff.mp hu
        rw [← hs, ← Go.Deep.add_add]
        exact (hat j (by omega)).trans (List.getElem?_eq_getElem hj)
      · exact ⟨none, fun h => absurd h hil⟩
    obtain ⟨f, hf⟩ := Classical.axiomOfChoice key
    have hex : ∀ i, i < len → ∃ z, f i = some z := fun i hil => by obtain ⟨z, hz, _⟩ := hf i hil; exact ⟨z, hz⟩
    obtain ⟨l, hl, h1⟩ := list_of f len hex
    subst hl
    refine ⟨l, ⟨some a, cap, rfl, hlc, rfl, Nat.le_trans hlc hcm, fun _ => ⟨a, rfl, fun j p hp => ?_⟩⟩, fun x hx => ?_⟩
    · obtain ⟨hj, hfj⟩ := h1 j p hp
      obtain ⟨z, hz, _, hc⟩ := hf j hj
      rw [hfj] at hz
      cases hz
      exact hc
    · obtain ⟨j, hj, rfl⟩ := List.getElem_of_mem hx
      obtain ⟨hj2, hfj⟩ := h1 j _ (List.getElem?_eq_getElem hj)
      obtain ⟨z, hz, hq, _⟩ := hf j hj2
      rw [hfj] at hz
      cases hz
      exact hq
theorem pairK {α β : Type} {d0 : Kd α} {d1 : Kd β} {w : World} {a : α} {b : β} {cs : List Value} {o s : Nat} (h0 : d0.K w a ((cs.drop o).take s)) (h1 : d1.K w b (cs.drop (o + s))) : (Kd.pair d0 d1).K w (a, b) (cs.drop o) :=
  ⟨_, _, by rw [← List.drop_drop, List.take_append_drop], h0, h1⟩
theorem lastK {α : Type} {d : Kd α} {w : World} {a : α} {cs : List Value} {o s : Nat} (hl : cs.length = o + s) (h : d.K w a ((cs.drop o).take s)) : d.K w a (cs.drop o) := by
  rwa [List.take_of_length_le (by rw [List.length_drop]; omega)] at h
/-- A slice that came in. -/
theorem opens_arg {T e : TypeId} {α : Type} {d : Kd α} {Q : List α → Prop} (hu : Try.prog.underlying T = some (.slice e)) (ho : Opens T (Kd.slice e d) Q) {H : Type} {enc : TypeId × Value → H} {w : World} {base b0 : Nat} {spare : Nat → Bool} {held : Bool} {r : Reach} {v : Value} {dd : DataW H} {p : List MemPlace}
    (hv : Value.okWide Try.prog w r b0 T v) (h : DataW.Trod enc Try.prog w base spare held T v dd p) : ∃ (A : Option Addr) (l : List α) (c : Nat), v = .slice A l.length c ∧ l.length ≤ c ∧ d.C w A l.length l ∧ Q l := by
  obtain ⟨a, len, cap, rfl⟩ := okWide_slice hu hv
  obtain ⟨fuel, hf⟩ := h
  obtain ⟨l, ⟨A, c, e, hl, hC⟩, hq⟩ := ho H enc w base spare held fuel _ _ hf
  have e2 : [Value.slice a len cap] = [.slice A l.length c] := e
  cases e2
  exact ⟨a, l, cap, rfl, hl, hC, hq⟩
theorem opens3 : Opens 3 (Kd.int .i64) (fun n => (Lit.int .i64 n).wf = true) := opens_int Try.underlying3
def Q41 (a : S44) : Prop := (fun n => (Lit.int .i64 n).wf = true) a.f0 ∧ (fun n => (Lit.int .i64 n).wf = true) a.f1 ∧ (fun n => (Lit.int .i64 n).wf = true) a.f2
theorem opens41 : Opens 41 k44 Q41 := by
  intro H enc w base spare held fuel cs x h
  obtain ⟨xs, n, _, _, hl, hlen, hg⟩ := DataW.trod_struct Try.underlying41 h
  have ct : Try.prog.cellsOf 41 = 3 := by kernel_rfl
  rw [ct] at hl
  have t0 : Try.prog.cellsOf 3 = 1 := by kernel_rfl
  obtain ⟨a0, k0, q0⟩ := opens3 _ _ _ _ _ _ _ _ _ ((hg 0 _ rfl).trans (List.getElem?_eq_getElem (by rw [hlen]; decide)))
  replace k0 : (Kd.int .i64).K w a0 ((cs.drop 0).take (Try.prog.cellsOf 3)) := k0
  rw [t0] at k0
  have t1 : Try.prog.cellsOf 3 = 1 := by kernel_rfl
  obtain ⟨a1, k1, q1⟩ := opens3 _ _ _ _ _ _ _ _ _ ((hg 1 _ rfl).trans (List.getElem?_eq_getElem (by rw [hlen]; decide)))
  replace k1 : (Kd.int .i64).K w a1 ((cs.drop 1).take (Try.prog.cellsOf 3)) := k1
  rw [t1] at k1
  have t2 : Try.prog.cellsOf 3 = 1 := by kernel_rfl
  obtain ⟨a2, k2, q2⟩ := opens3 _ _ _ _ _ _ _ _ _ ((hg 2 _ rfl).trans (List.getElem?_eq_getElem (by rw [hlen]; decide)))
  replace k2 : (Kd.int .i64).K w a2 ((cs.drop 2).take (Try.prog.cellsOf 3)) := k2
  rw [t2] at k2
  exact ⟨⟨a0, a1, a2⟩, pairK (o := 0) (s := 1) k0 (pairK (o := 1) (s := 1) k1 (lastK (o := 2) (s := 1) hl k2)), q0, q1, q2⟩
theorem opens39 : Opens 39 (Kd.slice 41 k44) (fun l => ∀ x ∈ l, Q41 x) := opens_slice Try.underlying39 opens41 (by kernel_rfl)
theorem opens23 : Opens 23 (Kd.slice 3 (Kd.int .i64)) (fun l => ∀ x ∈ l, (fun n => (Lit.int .i64 n).wf = true) x) := opens_slice Try.underlying23 opens3 (by kernel_rfl)
end Go.Proofs.Ythnimpbcfegmjaa.Own

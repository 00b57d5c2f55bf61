/-
  Rows of spans in memory.
-/
import Derived.Test.YtobfcppjmocgnaaSpans
namespace Go.Proofs.Ytobfcppjmocgnaa.Own
open Go.RowKit Go.Shelf Go.Proofs.YtobfcppjmocgnaaW.PrintWords Go.Proofs.YtobfcppjmocgnaaW.PrintLast Go.Proofs.Ytobfcppjmocgnaa.P
set_option linter.unusedVariables false

/-- A slice of spans in memory. -/
def Sps (w : World) (A : Option Addr) (sp : List SP) : Prop :=
  ∀ k p, sp[k]? = some p → ∃ ad, A = some ad ∧ (w.cell? (ad.add (k * 14)) = some (.int .i64 p.1.f0) ∧ w.cell? ⟨(ad.add (k * 14)).block, (ad.add (k * 14)).off + 1, none⟩ = some (.int .i64 p.1.f1) ∧ w.cell? ⟨(ad.add (k * 14)).block, (ad.add (k * 14)).off + 2, none⟩ = some (.int .i64 p.1.f2.f0) ∧ w.cell? ⟨(ad.add (k * 14)).block, (ad.add (k * 14)).off + 3, none⟩ = some (.int .u64 p.1.f2.f1) ∧ w.cell? ⟨(ad.add (k * 14)).block, (ad.add (k * 14)).off + 4, none⟩ = some (.int .i64 p.1.f2.f2) ∧ w.cell? ⟨(ad.add (k * 14)).block, (ad.add (k * 14)).off + 5, none⟩ = some (.int .i64 p.1.f2.f3) ∧ w.cell? ⟨(ad.add (k * 14)).block, (ad.add (k * 14)).off + 6, none⟩ = some (.int .i64 p.1.f2.f4) ∧ w.cell? ⟨(ad.add (k * 14)).block, (ad.add (k * 14)).off + 7, none⟩ = some (.int .u64 p.1.f2.f5.f0) ∧ w.cell? ⟨(ad.add (k * 14)).block, (ad.add (k * 14)).off + 8, none⟩ = some (.string p.1.f2.f5.f1) ∧ w.cell? ⟨(ad.add (k * 14)).block, (ad.add (k * 14)).off + 9, none⟩ = some (.int .i64 p.1.f3.f0) ∧ w.cell? ⟨(ad.add (k * 14)).block, (ad.add (k * 14)).off + 10, none⟩ = some (.int .i64 p.1.f3.f1) ∧ w.cell? ⟨(ad.add (k * 14)).block, (ad.add (k * 14)).off + 11, none⟩ = some (.slice p.2.1 p.1.f3.f2.length p.2.2) ∧ w.cell? ⟨(ad.add (k * 14)).block, (ad.add (k * 14)).off + 12, none⟩ = some (.int .i64 p.1.f4) ∧ w.cell? ⟨(ad.add (k * 14)).block, (ad.add (k * 14)).off + 13, none⟩ = some (.int .i64 p.1.f5)) ∧ p.1.f3.f2.length ≤ p.2.2 ∧ Kd.string.C w p.2.1 p.1.f3.f2.length p.1.f3.f2
theorem Sps.below {w w1 : World} {A : Option Addr} {sp : List SP} (h : Sps w A sp) (hb : Below w.heap.size w w1) : Sps w1 A sp := by
  intro k p hp
  obtain ⟨ad, e, ⟨h0, h1, h2, h3, h4, h5, h6, h7, h8, h9, h10, h11, h12, h13⟩, hl, hr⟩ := h k p hp
  exact ⟨ad, e, ⟨pw_cell_below hb h0, pw_cell_below hb h1, pw_cell_below hb h2, pw_cell_below hb h3, pw_cell_below hb h4, pw_cell_below hb h5, pw_cell_below hb h6, pw_cell_below hb h7, pw_cell_below hb h8, pw_cell_below hb h9, pw_cell_below hb h10, pw_cell_below hb h11, pw_cell_below hb h12, pw_cell_below hb h13⟩, hl, Kd.C_below hr hb⟩
/-- Each span's blocks can be read. -/
def Inner (w : World) (sp : List SP) : Prop := ∀ p ∈ sp, p.1.f3.f2.length ≤ p.2.2 ∧ Kd.string.C w p.2.1 p.1.f3.f2.length p.1.f3.f2
theorem Inner.below {w w1 : World} {sp : List SP} (h : Inner w sp) (hb : Below w.heap.size w w1) : Inner w1 sp := fun p hp => ⟨(h p hp).1, Kd.C_below (h p hp).2 hb⟩
theorem head_mem {α : Type} {l : List α} {x : α} (h : l.head? = some x) : x ∈ l := by
  cases l with
  | nil => cases h
  | cons a l => cases h; simp
theorem evl_mem {l : List S53} {hd : Nat → Option Addr × Nat} {y : E} (h : y ∈ evl l hd) : l[y.1]? = some y.2.1 ∧ y.2.2 = hd y.1 := by
  simp only [evl, List.mem_map, List.mem_range] at h
  obtain ⟨i, hi, rfl⟩ := h
  simp [List.getD_eq_getElem?_getD, hi]
theorem inner_of {w : World} {A : Option Addr} {l : List S53} {hd : Nat → Option Addr × Nat} (hE : Evs w A l hd) (k : Nat) : Inner w (spTo l hd k) := by
  induction k with
  | zero => intro p hp; simp [spTo] at hp
  | succ k ih =>
    intro p hp
    simp only [spTo, List.mem_append] at hp
    rcases hp with hp | hp
    · exact ih p hp
    · split at hp
      · rename_i x hx
        unfold spOf at hp
        split at hp
        · simp only [List.mem_singleton] at hp
          subst hp
          simp only
          cases hn : nextE l hd k x with
          | none => exact ⟨Nat.le_refl _, Kd.C_nil Kd.string w⟩
          | some y =>
            have hm := evl_mem (List.mem_filter.mp (head_mem hn)).1
            obtain ⟨ad, _, _, h1, h2⟩ := hE y.1 y.2.1 hm.1
            simp only [spanV, hdV, hm.2]
            exact ⟨h1, h2⟩
        · cases hp
      · cases hp
theorem cellsL_at (sp : List SP) (k : Nat) (p : SP) (h : sp[k]? = some p) : ∀ j, j < 14 → (cellsL sp)[k * 14 + j]? = (spc p.1 p.2.1 p.2.2)[j]? := by
  induction sp generalizing k with
  | nil => cases h
  | cons q sp ih =>
    intro j hj
    have hq : (spc q.1 q.2.1 q.2.2).toList.length = 14 := rfl
    have hc : cellsL (q :: sp) = (spc q.1 q.2.1 q.2.2).toList ++ cellsL sp := by simp [cellsL]
    rw [hc]
    cases k with
    | zero =>
      cases h
      rw [List.getElem?_append_left (by rw [hq]; omega), Nat.zero_mul, Nat.zero_add, Array.getElem?_toList]
    | succ k =>
      rw [List.getElem?_append_right (by rw [hq]; omega), hq, show (k + 1) * 14 + j - 14 = k * 14 + j by omega]
      exact ih k (by simpa using h) j hj
theorem sps_of {w : World} {base : Nat} {v : Value} {sp : List SP} (h : w.ownsRow base 41 14 v sp.length (cellsL sp)) (hi : Inner w sp) : ∃ A c, v = .slice A sp.length c ∧ Sps w A sp := by
  obtain ⟨A, c, rfl⟩ := own_slice h
  refine ⟨A, c, rfl, fun k p hp => ?_⟩
  have hk : k < sp.length := (List.getElem?_eq_some_iff.mp hp).1
  obtain ⟨g, cap, he, _, _⟩ := h.form (by omega)
  injection he with hA _ hc
  subst hA hc
  have key : ∀ j u, j < 14 → (spc p.1 p.2.1 p.2.2)[j]? = some u → w.cell? ⟨g, k * 14 + j, none⟩ = some u := fun j u hj hu => by
    have := h.cells (g := g) rfl _ _ ((cellsL_at sp k p hp j hj).trans hu)
    rwa [add_plain] at this
  refine ⟨⟨g, 0, none⟩, rfl, ?_, hi p (List.mem_of_getElem? hp)⟩
  rw [add_plain]
  exact ⟨key 0 _ (by omega) rfl, key 1 _ (by omega) rfl, key 2 _ (by omega) rfl, key 3 _ (by omega) rfl, key 4 _ (by omega) rfl, key 5 _ (by omega) rfl, key 6 _ (by omega) rfl, key 7 _ (by omega) rfl, key 8 _ (by omega) rfl, key 9 _ (by omega) rfl, key 10 _ (by omega) rfl, key 11 _ (by omega) rfl, key 12 _ (by omega) rfl, key 13 _ (by omega) rfl⟩

/-- What Spans tells, as a slice that is read. -/
theorem spans_told (A : Option Addr) (c : Nat) (l : List S53) (hd : Nat → Option Addr × Nat) (w : World) (hC : Kd.C k53 w A l.length l) (hE : Evs w A l hd) (hl : l.length ≤ 50) (sp : List SP) (hsp : sp = if okH l then spTo l hd l.length else []) :
    Calls Try.prog 8 #[.slice A l.length c] w fun e w' => ∃ B d, e = .returned (.tuple #[.slice B sp.length d, .int .i64 (if okH l then 0 else 1)]) ∧ Sps w' B sp ∧ Below w.heap.size w w' := by
  refine (spans_calls A c l hd w hC hE hl).mono ?_
  rintro e w' ⟨v, rfl, ho, hb⟩
  have hI : Inner w' (if okH l then spTo l hd l.length else []) := by
    split
    · exact (inner_of hE _).below hb
    · intro p hp; cases hp
  have ho2 : w'.ownsRow w.heap.size 41 14 v (if okH l then spTo l hd l.length else []).length (cellsL (if okH l then spTo l hd l.length else [])) := by
    revert ho; cases okH l <;> exact id
  rw [← hsp] at hI ho2
  obtain ⟨B, d, rfl, hs⟩ := sps_of ho2 hI
  exact ⟨B, d, rfl, hs, hb⟩
end Go.Proofs.Ytobfcppjmocgnaa.Own

/-
  Merged texts of this seat: S11, S12, S13, S14, S15.
-/
import Derived.Test.YthnimpbcfegmjaaS10
import Derived.Test.YthnimpbcfegmjaaA1
import Derived.Laws.EntriesVeiled
import Derived.Test.YthnimpbcfegmjaaPx2
/-
  sched.Enabled, sched.Done, walked by hand.
-/
namespace Go.Proofs.Ythnimpbcfegmjaa.Own
open Go.RowKit Go.Proofs.YthnimpbcfegmjaaW.PrintWords Go.Proofs.YthnimpbcfegmjaaW.PrintLast Go.Proofs.YthnimpbcfegmjaaW.PrintMore Go.Proofs.Ythnimpbcfegmjaa.P Go.Proofs.Ythnimpbcfegmjaa.Model
set_option linter.unusedVariables false
set_option linter.unusedSimpArgs false

def eno (b : Bool) : Int := if b then 0 else 1
def EnabledP (s : Syst) (w : World) (e : Ending) (w' : World) : Prop := ∃ v, e = .returned (.tuple #[v, .int .i64 (eno (rightB s))]) ∧ RowI w' w.heap.size v (if rightB s = true then enL s else []) ∧ Below w.heap.size w w'
set_option maxRecDepth 100000 in
set_option maxHeartbeats 4000000 in
theorem xEnabled_calls (s : Syst) (p : Ad) (w : World) (hC : SysC w s p) (hbd : Bd s) : Calls Try.prog 23 #[.agg (sysA s p)] w (EnabledP s w) := by
  have hB1 : Below w.heap.size w (w.alloc (.cells (sysA s p) 26)) := (Below.refl _ _).alloc (Nat.le_refl _) _
  have HB1 := Aside0.mk hB1
  have HR := Aside0.mk (right_calls s p _ (hC.below hB1) hbd)
  have HC := Aside0.mk hC
  have HE : Aside0 (∀ W, Below w.heap.size w W → rightB s = true → Calls Try.prog 32 #[.agg (sysA s p)] W (EnP s W)) := ⟨fun W h hr => enabled_calls s p W (hC.below h) (right_shp hr)⟩
  have HG := Aside0.mk (blk_new w (.cells (sysA s p) 26))
  obtain ⟨a0, c0, a1, c1, a2, c2, a3, c3, a4, c4, a5, c5⟩ := p
  unfold sysA at *
  dsimp only at *
  clear hB1 hC hbd
  cases hr : rightB s with
  | false =>
    have HQ : Aside0 (EnabledP s w = fun e w' => ∃ v, e = .returned (.tuple #[v, .int .i64 1]) ∧ RowI w' w.heap.size v [] ∧ Below w.heap.size w w') := ⟨by unfold EnabledP; rw [hr]; rfl⟩
    rw [HQ.out]
    have HRR := Aside0.mk hr
    clear hr
    go_enter Try.func23, Try.ntmps23
    go_wp2_with (go_at_call 20; refine HR.out.mono ?_; rintro e w2 ⟨rfl, hb⟩; rw [HRR.out]; have HB2 := Aside0.mk (HB1.out.trans (hb.mono HB1.out.size)); clear hb)
    go_ret2
    exact ⟨_, rfl, World.ownsRow_nil _ _ _ _, HB2.out⟩
  | true =>
    have HQ : Aside0 (EnabledP s w = fun e w' => ∃ v, e = .returned (.tuple #[v, .int .i64 0]) ∧ RowI w' w.heap.size v (enL s) ∧ Below w.heap.size w w') := ⟨by unfold EnabledP; rw [hr]; rfl⟩
    rw [HQ.out]
    have HRR := Aside0.mk hr
    clear hr
    go_enter Try.func23, Try.ntmps23
    go_wp2_with (first
      | (go_at_call 20; refine HR.out.mono ?_; rintro e w2 ⟨rfl, hb⟩; rw [HRR.out]; have HB2 := Aside0.mk (HB1.out.trans (hb.mono HB1.out.size)); have hg := blk_below HG.out hb; have q0 := blk_cell hg 0; have q1 := blk_cell hg 1; have q2 := blk_cell hg 2; have q3 := blk_cell hg 3; have q4 := blk_cell hg 4; have q5 := blk_cell hg 5; clear hb hg)
      | (go_at_call 32; refine (HE.out _ HB2.out HRR.out).mono ?_; rintro e w3 ⟨v, rfl, hrow, hb⟩; have HR3 := Aside0.mk (own_weaken hrow HB2.out.size); have HB3 := Aside0.mk (HB2.out.trans (hb.mono HB2.out.size)); clear hb hrow))
    go_ret2
    exact ⟨_, rfl, HR3.out, HB3.out⟩
end Go.Proofs.Ythnimpbcfegmjaa.Own
/-
  Worlds with some blocks hidden: what is read in one lies outside those blocks.
-/
namespace Go.Proofs.Ythnimpbcfegmjaa.Own
open Go.RowKit Go.Proofs.YthnimpbcfegmjaaW.PrintWords Go.Proofs.YthnimpbcfegmjaaW.PrintLast Go.Proofs.YthnimpbcfegmjaaW.PrintMore Go.Proofs.Ythnimpbcfegmjaa.P Go.Proofs.Ythnimpbcfegmjaa.Model
set_option linter.unusedVariables false
set_option linter.unusedSimpArgs false

def hid (P : Nat → Bool) (w : World) : World := { w with heap := w.heap.mapIdx fun k o => if P k = true then .cells #[] 26 (0, 0) else o }
theorem hid_size (P : Nat → Bool) (w : World) : (hid P w).heap.size = w.heap.size := by simp [hid]
theorem hid_at {P : Nat → Bool} {w : World} {k : Nat} (h : P k = false) : (hid P w).heap[k]? = w.heap[k]? := by
  simp only [hid, Array.getElem?_mapIdx, h]
  cases w.heap[k]? <;> rfl
theorem hid_off {P : Nat → Bool} {w : World} {k : Nat} (h : P k = true) (a : Addr) (ha : a.block = k) : (hid P w).cell? a = none := by
  unfold World.cell?
  rw [ha]
  simp only [hid, Array.getElem?_mapIdx, h]
  cases w.heap[k]? with
  | none => rfl
  | some o => simp
theorem hid_cell {P : Nat → Bool} {w : World} {a : Addr} {v : Value} (h : (hid P w).cell? a = some v) : P a.block = false ∧ w.cell? a = some v := by
  cases hp : P a.block with
  | true => rw [hid_off hp a rfl] at h; cases h
  | false => exact ⟨rfl, by rw [← h]; exact (World.cell?_of_block (w := w) (hid_at hp)).symm⟩
theorem hid_on {P : Nat → Bool} {w : World} {a : Addr} {v : Value} (hp : P a.block = false) (h : w.cell? a = some v) : (hid P w).cell? a = some v := (World.cell?_of_block (w := w) (hid_at hp)).trans h
theorem hid_up (P : Nat → Bool) (w : World) : Up (hid P w) w := ⟨fun h => (hid_cell h).2, by rw [hid_size]; exact Nat.le_refl _⟩
/-- Worlds rise; what is hidden later was hidden, or is new. -/
theorem up_hid {P Q : Nat → Bool} {w w1 : World} (hb : Below w.heap.size w w1) (hq : ∀ k, k < w.heap.size → Q k = true → P k = true) : Up (hid P w) (hid Q w1) := by
  refine ⟨fun {a v} h => ?_, by rw [hid_size, hid_size]; exact hb.size⟩
  obtain ⟨h1, h2⟩ := hid_cell h
  refine hid_on ?_ (pw_cell_below hb h2)
  cases hq2 : Q a.block with
  | false => rfl
  | true =>
    have := hq _ (World.block_lt_of_cell? w a h2) hq2
    rw [h1] at this
    cases this
theorem up_hid_put {P : Nat → Bool} {w : World} {q : Addr} (hq : P q.block = true) (u : Value) : Up (hid P w) (hid P (w.setCell q u)) := by
  refine ⟨fun {a v} h => ?_, by rw [hid_size, hid_size]; simp⟩
  obtain ⟨h1, h2⟩ := hid_cell h
  refine hid_on h1 ((cell_ne w (fun e => ?_) u).trans h2)
  rw [e, hq] at h1
  cases h1
theorem hid_none (w : World) : Up w (hid (fun _ => false) w) := ⟨fun h => hid_on rfl h, by rw [hid_size]; exact Nat.le_refl _⟩
/-- A world, and one with new blocks of which some are hidden. -/
theorem up_new {Q : Nat → Bool} {w w1 : World} (hb : Below w.heap.size w w1) (hq : ∀ k, Q k = true → w.heap.size ≤ k) : Up w (hid Q w1) := (hid_none w).trans (up_hid hb (fun k hk h => by have := hq k h; omega))
theorem hid_row {P : Nat → Bool} {w : World} {b n c size : Nat} {e : TypeId} {A : Option Addr} {xs : List Value} (h : w.ownsRow b e size (.slice A n c) n xs) (hP : ∀ k, P k = true → k < b) : (hid P w).ownsRow b e size (.slice A n c) n xs := by
  refine ⟨h.1, ?_⟩
  rcases h.2 with h1 | ⟨g, cap, cur, h1, h2, h3, h4⟩
  · exact .inl h1
  · refine .inr ⟨g, cap, cur, h1, h2, ?_, h4⟩
    rw [hid_at]
    · exact h3
    · cases hp : P g with
      | false => rfl
      | true => have := hP g hp; omega
theorem FinS.hid {P : Nat → Bool} {w W : World} {b : Nat} {s : Syst} {p : Ad} {us : List Value} (h : FinS (hid P w) b W s p us) (hP : ∀ k, P k = true → k < b) (hb : Below w.heap.size w W) : SysC (hid P W) s p := by
  have hu : Up (Own.hid P w) (Own.hid P W) := up_hid hb (fun _ _ h => h)
  have hf : FinS (Own.hid P w) b (Own.hid P W) s p us := ⟨h.th, h.h0, hid_row h.r1 hP, hid_row h.r2 hP, hid_row h.r3 hP, hid_row h.r4 hP, hid_row h.r5 hP, fun j x u hx hv => by
    obtain ⟨A, c, e, h1, h2⟩ := h.inn j x u hx hv
    refine ⟨A, c, e, h1, h2.imp id (fun h3 => ?_)⟩
    subst e
    exact hid_row h3 hP, hu, h.ge⟩
  exact hf.sys
end Go.Proofs.Ythnimpbcfegmjaa.Own
/-
  sched.Step, walked by hand.
-/
namespace Go.Proofs.Ythnimpbcfegmjaa.Own
open Go.RowKit Go.Proofs.YthnimpbcfegmjaaW.PrintWords Go.Proofs.YthnimpbcfegmjaaW.PrintLast Go.Proofs.YthnimpbcfegmjaaW.PrintMore Go.Proofs.Ythnimpbcfegmjaa.P Go.Proofs.Ythnimpbcfegmjaa.Model
set_option linter.unusedVariables false
set_option linter.unusedSimpArgs false

theorem C_nil {α : Type} (d : Kd α) (w : World) : Kd.C d w none 0 [] := ⟨rfl, by simp, fun h => absurd h (Nat.lt_irrefl 0)⟩
theorem SysC_none (w : World) : SysC w Syst.none Ad.none := ⟨C_nil _ w, Nat.le_refl _, C_nil _ w, Nat.le_refl _, C_nil _ w, Nat.le_refl _, C_nil _ w, Nat.le_refl _, C_nil _ w, Nat.le_refl _, C_nil _ w, Nat.le_refl _⟩
theorem six_below {w W : World} (hb : Below w.heap.size w W) (v0 v1 v2 v3 v4 v5 : Value) : Below w.heap.size w ((((((W.setCell ⟨w.heap.size + 1, 0, none⟩ v0).setCell ⟨w.heap.size + 1, 1, none⟩ v1).setCell ⟨w.heap.size + 1, 2, none⟩ v2).setCell ⟨w.heap.size + 1, 3, none⟩ v3).setCell ⟨w.heap.size + 1, 4, none⟩ v4).setCell ⟨w.heap.size + 1, 5, none⟩ v5) := below_put (g := w.heap.size + 1) (k := 5) (below_put (g := w.heap.size + 1) (k := 4) (below_put (g := w.heap.size + 1) (k := 3) (below_put (g := w.heap.size + 1) (k := 2) (below_put (g := w.heap.size + 1) (k := 1) (below_put (g := w.heap.size + 1) (k := 0) (hb) (Nat.le_succ _) _) (Nat.le_succ _) _) (Nat.le_succ _) _) (Nat.le_succ _) _) (Nat.le_succ _) _) (Nat.le_succ _) _
theorem step_end {P : Nat → Bool} {w W : World} {b : Nat} {s : Syst} {p : Ad} {us : List Value} {v0 v1 v2 v3 v4 v5 : Value} (h : FinS (hid P w) b W s p us) (hlt : w.heap.size + 1 < b) (hP : ∀ k, P k = true → k < b) (hb : Below w.heap.size w W) :
    SysC (hid P ((((((W.setCell ⟨w.heap.size + 1, 0, none⟩ v0).setCell ⟨w.heap.size + 1, 1, none⟩ v1).setCell ⟨w.heap.size + 1, 2, none⟩ v2).setCell ⟨w.heap.size + 1, 3, none⟩ v3).setCell ⟨w.heap.size + 1, 4, none⟩ v4).setCell ⟨w.heap.size + 1, 5, none⟩ v5)) s p ∧ Below w.heap.size w ((((((W.setCell ⟨w.heap.size + 1, 0, none⟩ v0).setCell ⟨w.heap.size + 1, 1, none⟩ v1).setCell ⟨w.heap.size + 1, 2, none⟩ v2).setCell ⟨w.heap.size + 1, 3, none⟩ v3).setCell ⟨w.heap.size + 1, 4, none⟩ v4).setCell ⟨w.heap.size + 1, 5, none⟩ v5) := by
  have hB := six_below hb v0 v1 v2 v3 v4 v5
  exact ⟨FinS.hid ((((((h.box (q := ⟨w.heap.size + 1, 0, none⟩) hlt (by rw [hid_size]; exact Nat.le_succ _) _).box (q := ⟨w.heap.size + 1, 1, none⟩) hlt (by rw [hid_size]; exact Nat.le_succ _) _).box (q := ⟨w.heap.size + 1, 2, none⟩) hlt (by rw [hid_size]; exact Nat.le_succ _) _).box (q := ⟨w.heap.size + 1, 3, none⟩) hlt (by rw [hid_size]; exact Nat.le_succ _) _).box (q := ⟨w.heap.size + 1, 4, none⟩) hlt (by rw [hid_size]; exact Nat.le_succ _) _).box (q := ⟨w.heap.size + 1, 5, none⟩) hlt (by rw [hid_size]; exact Nat.le_succ _) _) hP hB, hB⟩
/-- Step, by number; and the error's number. -/
def xStep (s : Syst) (t : Int) : Syst × Int :=
  if rightB s = false then (Syst.none, 1) else if inB t 0 ((s.th.length : Int) - 1) = false then (Syst.none, 3) else if canB s t.toNat = false then (Syst.none, 11) else (stepN s t.toNat, 0)
def XStepP (P : Nat → Bool) (r : Syst × Int) (w : World) (e : Ending) (w' : World) : Prop := ∃ p, e = .returned (.tuple #[.agg (sysA r.1 p), .int .i64 r.2]) ∧ SysC (hid P w') r.1 p ∧ Below w.heap.size w w'
set_option maxRecDepth 100000 in
set_option maxHeartbeats 8000000 in
theorem xStep_calls (P : Nat → Bool) (s : Syst) (p : Ad) (t : Int) (w : World) (hC0 : SysC (hid P w) s p) (hP : ∀ k, P k = true → k < w.heap.size) (hbd : Bd s) : Calls Try.prog 24 #[.agg (sysA s p), .int .i64 t] w (XStepP P (xStep s t) w) := by
  have hC := hC0.up (hid_up P w)
  have HP := Aside0.mk hP
  have hB1 : Below w.heap.size w (w.alloc (.cells (sysA s p) 26)) := (Below.refl _ _).alloc (Nat.le_refl _) _
  have hB2 := hB1.alloc hB1.size (.cells #[.slice none 0 0, .slice none 0 0, .slice none 0 0, .slice none 0 0, .slice none 0 0, .slice none 0 0] 26)
  have HB := Aside0.mk hB2
  have HR := Aside0.mk (right_calls s p _ (hC.below hB2) hbd)
  have HCc : Aside0 (∀ W, Below w.heap.size w W → rightB s = true → inB t 0 ((s.th.length : Int) - 1) = true → Calls Try.prog 52 #[.agg (sysA s p), .int .i64 t] W (Ret (canB s t.toNat) W)) := ⟨fun W h hr hi => by
    simp only [inB, Bool.and_eq_true, decide_eq_true_eq] at hi
    have e : t = ((t.toNat : Nat) : Int) := by omega
    rw [e]
    simp only [Int.toNat_natCast]
    exact can_calls s p t.toNat W (hC.below h) (right_shp hr) (by omega)⟩
  have HG : Aside0 (((w.alloc (.cells (sysA s p) 26)).alloc (.cells #[.slice none 0 0, .slice none 0 0, .slice none 0 0, .slice none 0 0, .slice none 0 0, .slice none 0 0] 26)).heap[w.heap.size]? = some (.cells (sysA s p) 26 (0, 0))) := ⟨blk_alloc (blk_new w _) _⟩
  have HZ : Aside0 (((w.alloc (.cells (sysA s p) 26)).alloc (.cells #[.slice none 0 0, .slice none 0 0, .slice none 0 0, .slice none 0 0, .slice none 0 0, .slice none 0 0] 26)).heap[w.heap.size + 1]? = some (.cells #[.slice none 0 0, .slice none 0 0, .slice none 0 0, .slice none 0 0, .slice none 0 0, .slice none 0 0] 26 (0, 0))) := ⟨by
    have h1 := blk_new (w.alloc (.cells (sysA s p) 26)) (.cells #[.slice none 0 0, .slice none 0 0, .slice none 0 0, .slice none 0 0, .slice none 0 0, .slice none 0 0] 26)
    have hsz : (w.alloc (.cells (sysA s p) 26)).heap.size = w.heap.size + 1 := by simp
    rw [hsz] at h1
    exact h1⟩
  have HN8 : rightB s = true → s.th.length ≤ 8 := fun h => (right_shp h).n
  have HN := Aside0.mk HN8
  have HST0 : Aside0 (rightB s = true → inB t 0 ((s.th.length : Int) - 1) = true → canB s t.toNat = true → ∀ W, Below w.heap.size w W → Calls Try.prog 33 #[.agg (sysA s p), .int .i64 t] W (StepP (hid P w) (stepN s t.toNat) W)) := ⟨fun hr hi hc W h => by
    simp only [inB, Bool.and_eq_true, decide_eq_true_eq] at hi
    have e : t = ((t.toNat : Nat) : Int) := by omega
    unfold canB at hc
    unfold stepN
    split at hc
    · rename_i i hi2
      try rw [hi2]
      have h1 := step_calls (hid P w) s p t.toNat i W hC0 ((hid_up P w).trans (up_below h)) (right_shp hr) (by omega) hi2 hc
      rw [← e] at h1
      exact h1
    · cases hc⟩
  have hl100 := hbd.n0
  clear hC0 hP
  obtain ⟨a0, c0, a1, c1, a2, c2, a3, c3, a4, c4, a5, c5⟩ := p
  unfold sysA at *
  dsimp only at *
  clear hB1 hB2 hC hbd HN8
  cases hr : rightB s with
  | false =>
    have e : xStep s t = (Syst.none, 1) := by unfold xStep; rw [hr]; rfl
    rw [e]
    have HRR := Aside0.mk hr
    clear hr e
    as_aux_lemma =>
    go_enter Try.func24, Try.ntmps24
    go_wp2_with (go_at_call 20; refine HR.out.mono ?_; rintro e w2 ⟨rfl, hb⟩; rw [HRR.out]; replace HG := Aside0.mk (blk_below HG.out hb); replace HZ := Aside0.mk (blk_below HZ.out hb); replace HB := Aside0.mk (HB.out.trans (hb.mono HB.out.size)); clear hb; have q0 := blk_cell HG.out 0; have z0 := blk_cell HZ.out 0; have y0 := blk_frozen HZ.out 0; have q1 := blk_cell HG.out 1; have z1 := blk_cell HZ.out 1; have y1 := blk_frozen HZ.out 1; have q2 := blk_cell HG.out 2; have z2 := blk_cell HZ.out 2; have y2 := blk_frozen HZ.out 2; have q3 := blk_cell HG.out 3; have z3 := blk_cell HZ.out 3; have y3 := blk_frozen HZ.out 3; have q4 := blk_cell HG.out 4; have z4 := blk_cell HZ.out 4; have y4 := blk_frozen HZ.out 4; have q5 := blk_cell HG.out 5; have z5 := blk_cell HZ.out 5; have y5 := blk_frozen HZ.out 5)
    refine bodyPost_ret (results_ct rfl _ _ (w.heap.size + 1) 26 _ (0, 0) _ rfl (six_put _ _ _ _ _ _ HZ.out) Try.underlying26 rfl (by kernel_rfl)) rfl ?_
    exact ⟨Ad.none, rfl, SysC_none _, below_put (g := w.heap.size + 1) (k := 5) (below_put (g := w.heap.size + 1) (k := 4) (below_put (g := w.heap.size + 1) (k := 3) (below_put (g := w.heap.size + 1) (k := 2) (below_put (g := w.heap.size + 1) (k := 1) (below_put (g := w.heap.size + 1) (k := 0) (HB.out) (Nat.le_succ _) _) (Nat.le_succ _) _) (Nat.le_succ _) _) (Nat.le_succ _) _) (Nat.le_succ _) _) (Nat.le_succ _) _⟩
  | true =>
    have HRR := Aside0.mk hr
    cases hin : inB t 0 ((s.th.length : Int) - 1) with
    | false =>
      have e : xStep s t = (Syst.none, 3) := by unfold xStep; rw [hr, hin]; rfl
      rw [e]
      have HIN := Aside0.mk hin
      clear hr e hin
      as_aux_lemma =>
      go_enter Try.func24, Try.ntmps24
      go_wp2_with (first | (go_at_call 20; refine HR.out.mono ?_; rintro e w2 ⟨rfl, hb⟩; rw [HRR.out]; replace HG := Aside0.mk (blk_below HG.out hb); replace HZ := Aside0.mk (blk_below HZ.out hb); replace HB := Aside0.mk (HB.out.trans (hb.mono HB.out.size)); clear hb; have q0 := blk_cell HG.out 0; have z0 := blk_cell HZ.out 0; have y0 := blk_frozen HZ.out 0; have q1 := blk_cell HG.out 1; have z1 := blk_cell HZ.out 1; have y1 := blk_frozen HZ.out 1; have q2 := blk_cell HG.out 2; have z2 := blk_cell HZ.out 2; have y2 := blk_frozen HZ.out 2; have q3 := blk_cell HG.out 3; have z3 := blk_cell HZ.out 3; have y3 := blk_frozen HZ.out 3; have q4 := blk_cell HG.out 4; have z4 := blk_cell HZ.out 4; have y4 := blk_frozen HZ.out 4; have q5 := blk_cell HG.out 5; have z5 := blk_cell HZ.out 5; have y5 := blk_frozen HZ.out 5) | (go_at_call 38; refine (in_calls _ _ _ _).mono ?_; rintro e w' ⟨rfl, rfl⟩; rw [HIN.out]))
      refine bodyPost_ret (results_ct rfl _ _ (w.heap.size + 1) 26 _ (0, 0) _ rfl (six_put _ _ _ _ _ _ HZ.out) Try.underlying26 rfl (by kernel_rfl)) rfl ?_
      exact ⟨Ad.none, rfl, SysC_none _, below_put (g := w.heap.size + 1) (k := 5) (below_put (g := w.heap.size + 1) (k := 4) (below_put (g := w.heap.size + 1) (k := 3) (below_put (g := w.heap.size + 1) (k := 2) (below_put (g := w.heap.size + 1) (k := 1) (below_put (g := w.heap.size + 1) (k := 0) (HB.out) (Nat.le_succ _) _) (Nat.le_succ _) _) (Nat.le_succ _) _) (Nat.le_succ _) _) (Nat.le_succ _) _) (Nat.le_succ _) _⟩
    | true =>
      have HIN := Aside0.mk hin
      cases hcn : canB s t.toNat with
      | false =>
        have e : xStep s t = (Syst.none, 11) := by unfold xStep; rw [hr, hin, hcn]; rfl
        rw [e]
        have HCN := Aside0.mk hcn
        clear hr e hin hcn
        as_aux_lemma =>
        go_enter Try.func24, Try.ntmps24
        go_wp2_with (first | (go_at_call 20; refine HR.out.mono ?_; rintro e w2 ⟨rfl, hb⟩; rw [HRR.out]; replace HG := Aside0.mk (blk_below HG.out hb); replace HZ := Aside0.mk (blk_below HZ.out hb); replace HB := Aside0.mk (HB.out.trans (hb.mono HB.out.size)); clear hb; have q0 := blk_cell HG.out 0; have z0 := blk_cell HZ.out 0; have y0 := blk_frozen HZ.out 0; have q1 := blk_cell HG.out 1; have z1 := blk_cell HZ.out 1; have y1 := blk_frozen HZ.out 1; have q2 := blk_cell HG.out 2; have z2 := blk_cell HZ.out 2; have y2 := blk_frozen HZ.out 2; have q3 := blk_cell HG.out 3; have z3 := blk_cell HZ.out 3; have y3 := blk_frozen HZ.out 3; have q4 := blk_cell HG.out 4; have z4 := blk_cell HZ.out 4; have y4 := blk_frozen HZ.out 4; have q5 := blk_cell HG.out 5; have z5 := blk_cell HZ.out 5; have y5 := blk_frozen HZ.out 5) | (go_at_call 38; refine (in_calls _ _ _ _).mono ?_; rintro e w' ⟨rfl, rfl⟩; rw [HIN.out]) | (go_at_call 52; refine (HCc.out _ HB.out HRR.out HIN.out).mono ?_; rintro e w3 ⟨rfl, hb⟩; rw [HCN.out]; replace HG := Aside0.mk (blk_below HG.out hb); replace HZ := Aside0.mk (blk_below HZ.out hb); replace HB := Aside0.mk (HB.out.trans (hb.mono HB.out.size)); clear hb; replace q0 := blk_cell HG.out 0; replace z0 := blk_cell HZ.out 0; replace y0 := blk_frozen HZ.out 0; replace q1 := blk_cell HG.out 1; replace z1 := blk_cell HZ.out 1; replace y1 := blk_frozen HZ.out 1; replace q2 := blk_cell HG.out 2; replace z2 := blk_cell HZ.out 2; replace y2 := blk_frozen HZ.out 2; replace q3 := blk_cell HG.out 3; replace z3 := blk_cell HZ.out 3; replace y3 := blk_frozen HZ.out 3; replace q4 := blk_cell HG.out 4; replace z4 := blk_cell HZ.out 4; replace y4 := blk_frozen HZ.out 4; replace q5 := blk_cell HG.out 5; replace z5 := blk_cell HZ.out 5; replace y5 := blk_frozen HZ.out 5))
        refine bodyPost_ret (results_ct rfl _ _ (w.heap.size + 1) 26 _ (0, 0) _ rfl (six_put _ _ _ _ _ _ HZ.out) Try.underlying26 rfl (by kernel_rfl)) rfl ?_
        exact ⟨Ad.none, rfl, SysC_none _, below_put (g := w.heap.size + 1) (k := 5) (below_put (g := w.heap.size + 1) (k := 4) (below_put (g := w.heap.size + 1) (k := 3) (below_put (g := w.heap.size + 1) (k := 2) (below_put (g := w.heap.size + 1) (k := 1) (below_put (g := w.heap.size + 1) (k := 0) (HB.out) (Nat.le_succ _) _) (Nat.le_succ _) _) (Nat.le_succ _) _) (Nat.le_succ _) _) (Nat.le_succ _) _) (Nat.le_succ _) _⟩
      | true =>
        have e : xStep s t = (stepN s t.toNat, 0) := by unfold xStep; rw [hr, hin, hcn]; rfl
        rw [e]
        have HCN := Aside0.mk hcn
        have HST := Aside0.mk (HST0.out hr hin hcn)
        clear hr e hin hcn
        as_aux_lemma =>
        go_enter Try.func24, Try.ntmps24
        go_wp2_with (first | (go_at_call 20; refine HR.out.mono ?_; rintro e w2 ⟨rfl, hb⟩; rw [HRR.out]; replace HG := Aside0.mk (blk_below HG.out hb); replace HZ := Aside0.mk (blk_below HZ.out hb); replace HB := Aside0.mk (HB.out.trans (hb.mono HB.out.size)); clear hb; have q0 := blk_cell HG.out 0; have z0 := blk_cell HZ.out 0; have y0 := blk_frozen HZ.out 0; have q1 := blk_cell HG.out 1; have z1 := blk_cell HZ.out 1; have y1 := blk_frozen HZ.out 1; have q2 := blk_cell HG.out 2; have z2 := blk_cell HZ.out 2; have y2 := blk_frozen HZ.out 2; have q3 := blk_cell HG.out 3; have z3 := blk_cell HZ.out 3; have y3 := blk_frozen HZ.out 3; have q4 := blk_cell HG.out 4; have z4 := blk_cell HZ.out 4; have y4 := blk_frozen HZ.out 4; have q5 := blk_cell HG.out 5; have z5 := blk_cell HZ.out 5; have y5 := blk_frozen HZ.out 5) | (go_at_call 38; refine (in_calls _ _ _ _).mono ?_; rintro e w' ⟨rfl, rfl⟩; rw [HIN.out]) | (go_at_call 52; refine (HCc.out _ HB.out HRR.out HIN.out).mono ?_; rintro e w3 ⟨rfl, hb⟩; rw [HCN.out]; replace HG := Aside0.mk (blk_below HG.out hb); replace HZ := Aside0.mk (blk_below HZ.out hb); replace HB := Aside0.mk (HB.out.trans (hb.mono HB.out.size)); clear hb; replace q0 := blk_cell HG.out 0; replace z0 := blk_cell HZ.out 0; replace y0 := blk_frozen HZ.out 0; replace q1 := blk_cell HG.out 1; replace z1 := blk_cell HZ.out 1; replace y1 := blk_frozen HZ.out 1; replace q2 := blk_cell HG.out 2; replace z2 := blk_cell HZ.out 2; replace y2 := blk_frozen HZ.out 2; replace q3 := blk_cell HG.out 3; replace z3 := blk_cell HZ.out 3; replace y3 := blk_frozen HZ.out 3; replace q4 := blk_cell HG.out 4; replace z4 := blk_cell HZ.out 4; replace y4 := blk_frozen HZ.out 4; replace q5 := blk_cell HG.out 5; replace z5 := blk_cell HZ.out 5; replace y5 := blk_frozen HZ.out 5) | (go_at_call 33; have HLT := Aside0.mk (blk_lt HZ.out); refine (HST.out _ HB.out).mono ?_; rintro e w4 ⟨p4, b4, us4, rfl, hfin, hb4, hb⟩; have HFIN := Aside0.mk hfin; replace HLT := Aside0.mk (Nat.lt_of_lt_of_le HLT.out hb4); have HB4 := Aside0.mk (Nat.le_trans HB.out.size hb4); clear hfin hb4; dsimp only [sysA]; replace HG := Aside0.mk (blk_below HG.out hb); replace HZ := Aside0.mk (blk_below HZ.out hb); replace HB := Aside0.mk (HB.out.trans (hb.mono HB.out.size)); clear hb; replace q0 := blk_cell HG.out 0; replace z0 := blk_cell HZ.out 0; replace y0 := blk_frozen HZ.out 0; replace q1 := blk_cell HG.out 1; replace z1 := blk_cell HZ.out 1; replace y1 := blk_frozen HZ.out 1; replace q2 := blk_cell HG.out 2; replace z2 := blk_cell HZ.out 2; replace y2 := blk_frozen HZ.out 2; replace q3 := blk_cell HG.out 3; replace z3 := blk_cell HZ.out 3; replace y3 := blk_frozen HZ.out 3; replace q4 := blk_cell HG.out 4; replace z4 := blk_cell HZ.out 4; replace y4 := blk_frozen HZ.out 4; replace q5 := blk_cell HG.out 5; replace z5 := blk_cell HZ.out 5; replace y5 := blk_frozen HZ.out 5))
        refine bodyPost_ret (results_ct rfl _ _ (w.heap.size + 1) 26 _ (0, 0) _ rfl (six_put _ _ _ _ _ _ HZ.out) Try.underlying26 rfl (by kernel_rfl)) rfl ?_
        exact ⟨p4, rfl, step_end HFIN.out HLT.out (fun k hk => Nat.lt_of_lt_of_le (HP.out k hk) HB4.out) HB.out⟩
end Go.Proofs.Ythnimpbcfegmjaa.Own
/-
  sched.Run, walked by hand.
-/
namespace Go.Proofs.Ythnimpbcfegmjaa.Own
open Go.RowKit Go.Proofs.YthnimpbcfegmjaaW.PrintWords Go.Proofs.YthnimpbcfegmjaaW.PrintLast Go.Proofs.YthnimpbcfegmjaaW.PrintMore Go.Proofs.Ythnimpbcfegmjaa.P Go.Proofs.Ythnimpbcfegmjaa.Model
set_option linter.unusedVariables false
set_option linter.unusedSimpArgs false

def xRun (s : Syst) (l : List Int) : Syst × List Int := if rightB s = true then runS s l else (Syst.none, [])
def RunP (P : Nat → Bool) (r : Syst × List Int) (c : Int) (w : World) (e : Ending) (w' : World) : Prop := ∃ p v, e = .returned (.tuple #[.agg (sysA r.1 p), v, .int .i64 c]) ∧ SysC (hid P w') r.1 p ∧ RowI w' w.heap.size v r.2 ∧ Below w.heap.size w w'
/-- The loop's world: the system in the box at g; the row v lies elsewhere. -/
structure InBox (P : Nat → Bool) (g : Nat) (v : Value) (W : World) (s : Syst) : Prop where
  ex : ∃ Q p, (∀ k, P k = true → Q k = true) ∧ Q g = true ∧ Q (g + 1) = true ∧ (∀ r, v.ownBlock = some r → Q r = true) ∧ (∀ k, Q k = true → k < W.heap.size) ∧ W.heap[g]? = some (.cells (sysA s p) 26 (0, 0)) ∧ SysC (hid Q W) s p
section
variable {w W : World} {b g : Nat} {v0 v1 v2 v3 v4 v5 : Value}
theorem six_cells {x0 x1 x2 x3 x4 x5 : Value} (h : W.heap[g]? = some (.cells #[x0, x1, x2, x3, x4, x5] 26 (0, 0))) : W.cell? ⟨g, 0, none⟩ = some x0 ∧ W.cell? ⟨g, 1, none⟩ = some x1 ∧ W.cell? ⟨g, 2, none⟩ = some x2 ∧ W.cell? ⟨g, 3, none⟩ = some x3 ∧ W.cell? ⟨g, 4, none⟩ = some x4 ∧ W.cell? ⟨g, 5, none⟩ = some x5 :=
  ⟨blk_cell h 0, blk_cell h 1, blk_cell h 2, blk_cell h 3, blk_cell h 4, blk_cell h 5⟩
theorem six_frozen {x0 x1 x2 x3 x4 x5 : Value} (h : W.heap[g]? = some (.cells #[x0, x1, x2, x3, x4, x5] 26 (0, 0))) : W.frozen? ⟨g, 0, none⟩ = false ∧ W.frozen? ⟨g, 1, none⟩ = false ∧ W.frozen? ⟨g, 2, none⟩ = false ∧ W.frozen? ⟨g, 3, none⟩ = false ∧ W.frozen? ⟨g, 4, none⟩ = false ∧ W.frozen? ⟨g, 5, none⟩ = false :=
  ⟨blk_frozen h 0, blk_frozen h 1, blk_frozen h 2, blk_frozen h 3, blk_frozen h 4, blk_frozen h 5⟩
theorem six_size : ((((((W.setCell ⟨g, 0, none⟩ v0).setCell ⟨g, 1, none⟩ v1).setCell ⟨g, 2, none⟩ v2).setCell ⟨g, 3, none⟩ v3).setCell ⟨g, 4, none⟩ v4).setCell ⟨g, 5, none⟩ v5).heap.size = W.heap.size := by simp
theorem below_six (h : Below b w W) (hg : b ≤ g) : Below b w ((((((W.setCell ⟨g, 0, none⟩ v0).setCell ⟨g, 1, none⟩ v1).setCell ⟨g, 2, none⟩ v2).setCell ⟨g, 3, none⟩ v3).setCell ⟨g, 4, none⟩ v4).setCell ⟨g, 5, none⟩ v5) := below_put (k := 5) (below_put (k := 4) (below_put (k := 3) (below_put (k := 2) (below_put (k := 1) (below_put (k := 0) (h) hg _) hg _) hg _) hg _) hg _) hg _
theorem row_six {n c size : Nat} {e : TypeId} {A : Option Addr} {xs : List Value} (h : W.ownsRow b e size (.slice A n c) n xs) (hg : g < b) : ((((((W.setCell ⟨g, 0, none⟩ v0).setCell ⟨g, 1, none⟩ v1).setCell ⟨g, 2, none⟩ v2).setCell ⟨g, 3, none⟩ v3).setCell ⟨g, 4, none⟩ v4).setCell ⟨g, 5, none⟩ v5).ownsRow b e size (.slice A n c) n xs := own_low (own_low (own_low (own_low (own_low (own_low (h) (p := ⟨g, 0, none⟩) hg _) (p := ⟨g, 1, none⟩) hg _) (p := ⟨g, 2, none⟩) hg _) (p := ⟨g, 3, none⟩) hg _) (p := ⟨g, 4, none⟩) hg _) (p := ⟨g, 5, none⟩) hg _
theorem blk_six_far {k : Nat} {o : Obj} (h : W.heap[k]? = some o) (hk : k ≠ g) : ((((((W.setCell ⟨g, 0, none⟩ v0).setCell ⟨g, 1, none⟩ v1).setCell ⟨g, 2, none⟩ v2).setCell ⟨g, 3, none⟩ v3).setCell ⟨g, 4, none⟩ v4).setCell ⟨g, 5, none⟩ v5).heap[k]? = some o := by
  rw [Below.heap_setCell _ _ _ _ hk, Below.heap_setCell _ _ _ _ hk, Below.heap_setCell _ _ _ _ hk, Below.heap_setCell _ _ _ _ hk, Below.heap_setCell _ _ _ _ hk, Below.heap_setCell _ _ _ _ hk]
  exact h
theorem hid_six {Q : Nat → Bool} (hg : Q g = true) : Up (hid Q W) (hid Q ((((((W.setCell ⟨g, 0, none⟩ v0).setCell ⟨g, 1, none⟩ v1).setCell ⟨g, 2, none⟩ v2).setCell ⟨g, 3, none⟩ v3).setCell ⟨g, 4, none⟩ v4).setCell ⟨g, 5, none⟩ v5)) :=
  (up_hid_put (q := ⟨g, 0, none⟩) hg _).trans ((up_hid_put (q := ⟨g, 1, none⟩) hg _).trans ((up_hid_put (q := ⟨g, 2, none⟩) hg _).trans ((up_hid_put (q := ⟨g, 3, none⟩) hg _).trans ((up_hid_put (q := ⟨g, 4, none⟩) hg _).trans (up_hid_put (q := ⟨g, 5, none⟩) hg _)))))
theorem rowI_six {v : Value} {xs : List Int} (h : RowI W b v xs) (hg : g < b) : RowI ((((((W.setCell ⟨g, 0, none⟩ v0).setCell ⟨g, 1, none⟩ v1).setCell ⟨g, 2, none⟩ v2).setCell ⟨g, 3, none⟩ v3).setCell ⟨g, 4, none⟩ v4).setCell ⟨g, 5, none⟩ v5) b v xs := by
  obtain ⟨A, c, rfl⟩ := row_slice h
  exact row_six h hg
end
theorem hid_less {P Q : Nat → Bool} (w : World) (h : ∀ k, P k = true → Q k = true) : Up (hid Q w) (hid P w) := up_hid (Below.refl _ _) (fun k _ hk => h k hk)
theorem up_hid_grown {Q Q' : Nat → Bool} {w w1 : World} {row : Option Nat} (hb : w.grownBy w1 row) (hr : ∀ r, row = some r → Q r = true) (hq : ∀ k, k < w.heap.size → Q' k = true → Q k = true) : Up (hid Q w) (hid Q' w1) := by
  refine ⟨fun {a v} h => ?_, by rw [hid_size, hid_size]; exact hb.size⟩
  obtain ⟨h1, h2⟩ := hid_cell h
  have hlt := World.block_lt_of_cell? w a h2
  refine hid_on ?_ ?_
  · cases hq2 : Q' a.block with
    | false => rfl
    | true =>
      have := hq _ hlt hq2
      rw [h1] at this
      cases this
  · refine (World.cell?_of_block (w := w) (hb.block _ hlt (fun e => ?_))).trans h2
    rw [hr _ e.symm] at h1
    cases h1
/-- A row is appended to. -/
theorem InBox.grown {P : Nat → Bool} {g : Nat} {v v' : Value} {W W1 : World} {Q : Nat → Bool} {s : Syst} {p : Ad} (hP : ∀ k, P k = true → Q k = true) (hg : Q g = true) (hg1 : Q (g + 1) = true) (hv : ∀ r, v.ownBlock = some r → Q r = true) (hlt : ∀ k, Q k = true → k < W.heap.size) (hS : SysC (hid Q W) s p)
    (hb : W.grownBy W1 v.ownBlock) (hat : v'.ownBlock = v.ownBlock ∨ ∃ b, v'.ownBlock = some b ∧ W.heap.size ≤ b) (hv1 : ∀ r, v'.ownBlock = some r → r < W1.heap.size)
    {x0 x1 x2 x3 x4 x5 : Value} (hG : W1.heap[g]? = some (.cells #[x0, x1, x2, x3, x4, x5] 26 (0, 0))) :
    InBox P g v' ((((((W1.setCell ⟨g, 0, none⟩ (.slice p.a0 s.th.length p.c0)).setCell ⟨g, 1, none⟩ (.slice p.a1 s.at_.length p.c1)).setCell ⟨g, 2, none⟩ (.slice p.a2 s.su.length p.c2)).setCell ⟨g, 3, none⟩ (.slice p.a3 s.lo.length p.c3)).setCell ⟨g, 4, none⟩ (.slice p.a4 s.ce.length p.c4)).setCell ⟨g, 5, none⟩ (.slice p.a5 s.ch.length p.c5)) s := by
  refine ⟨⟨fun k => Q k || decide (v'.ownBlock = some k), p, fun k hk => by simp [hP k hk], by simp [hg], by simp [hg1], fun r hr => by simp [hr], fun k hk => ?_, six_put _ _ _ _ _ _ hG, ?_⟩⟩
  · rw [six_size]
    simp only [Bool.or_eq_true, decide_eq_true_eq] at hk
    rcases hk with hk | hk
    · exact Nat.lt_of_lt_of_le (hlt k hk) hb.size
    · exact hv1 k hk
  · refine hS.up ((up_hid_grown (Q' := fun k => Q k || decide (v'.ownBlock = some k)) hb hv (fun k hk h => ?_)).trans (hid_six (by simp [hg])))
    simp only [Bool.or_eq_true, decide_eq_true_eq] at h
    rcases h with h | h
    · exact h
    · rcases hat with h2 | ⟨b, h2, h3⟩
      · exact hv k (h2.symm.trans h)
      · rw [h2] at h
        injection h with h
        omega
theorem rowI_lt {w : World} {b : Nat} {v : Value} {xs : List Int} (h : RowI w b v xs) : ∀ r, v.ownBlock = some r → r < w.heap.size := by
  intro r hr
  obtain ⟨A, c, rfl⟩ := row_slice h
  rcases h.2 with ⟨h1, _⟩ | ⟨g, cap, cur, h1, h2, h3, _⟩
  · injection h1 with h1
    subst h1
    simp [Value.ownBlock] at hr
  · injection h1 with h1
    subst h1
    simp [Value.ownBlock] at hr
    subst hr
    exact blk_lt h3
theorem alloc_size (w : World) (o : Obj) : (w.alloc o).heap.size = w.heap.size + 1 := by simp
set_option maxRecDepth 100000 in
set_option maxHeartbeats 8000000 in
theorem xRun_calls (P : Nat → Bool) (s : Syst) (p : Ad) (A : Option Addr) (c : Nat) (l : List Int) (w : World) (hC0 : SysC (hid P w) s p) (hP : ∀ k, P k = true → k < w.heap.size) (hbd : Bd s) (hl : CI w A l) (hl1 : l.length ≤ 1000) : Calls Try.prog 9 #[.agg (sysA s p), .slice A l.length c] w (RunP P (xRun s l) (eno (rightB s)) w) := by
  have hC := hC0.up (hid_up P w)
  have HP := Aside0.mk hP
  have hB1 : Below w.heap.size w (w.alloc (.cells (sysA s p) 26)) := (Below.refl _ _).alloc (Nat.le_refl _) _
  have hB2 := hB1.alloc hB1.size (.cells #[.slice none 0 0, .slice none 0 0, .slice none 0 0, .slice none 0 0, .slice none 0 0, .slice none 0 0] 26)
  have HB := Aside0.mk hB2
  have HR := Aside0.mk (right_calls s p _ (hC.below hB2) hbd)
  have HG : Aside0 (((w.alloc (.cells (sysA s p) 26)).alloc (.cells #[.slice none 0 0, .slice none 0 0, .slice none 0 0, .slice none 0 0, .slice none 0 0, .slice none 0 0] 26)).heap[w.heap.size]? = some (.cells (sysA s p) 26 (0, 0))) := ⟨blk_alloc (blk_new w _) _⟩
  have HZ : Aside0 (((w.alloc (.cells (sysA s p) 26)).alloc (.cells #[.slice none 0 0, .slice none 0 0, .slice none 0 0, .slice none 0 0, .slice none 0 0, .slice none 0 0] 26)).heap[w.heap.size + 1]? = some (.cells #[.slice none 0 0, .slice none 0 0, .slice none 0 0, .slice none 0 0, .slice none 0 0, .slice none 0 0] 26 (0, 0))) := ⟨by
    have h1 := blk_new (w.alloc (.cells (sysA s p) 26)) (.cells #[.slice none 0 0, .slice none 0 0, .slice none 0 0, .slice none 0 0, .slice none 0 0, .slice none 0 0] 26)
    have hsz : (w.alloc (.cells (sysA s p) 26)).heap.size = w.heap.size + 1 := by simp
    rw [hsz] at h1
    exact h1⟩
  have HL := Aside0.mk hl
  have HS : Aside0 (rightB s = true → Shp s) := ⟨right_shp⟩
  cases hr : rightB s with
  | false =>
    have e : xRun s l = (Syst.none, []) := by unfold xRun; rw [hr]; rfl
    have e2 : eno false = 1 := rfl
    rw [e, e2]
    have HRR := Aside0.mk hr
    clear hr e e2 hC0 hP hl hbd hC hB1 hB2
    obtain ⟨a0, c0, a1, c1, a2, c2, a3, c3, a4, c4, a5, c5⟩ := p
    unfold sysA at *
    dsimp only at *
    as_aux_lemma =>
    go_enter Try.func9, Try.ntmps9
    go_wp2_with (go_at_call 20; refine HR.out.mono ?_; rintro e w2 ⟨rfl, hb⟩; rw [HRR.out]; replace HG := Aside0.mk (blk_below HG.out hb); replace HZ := Aside0.mk (blk_below HZ.out hb); replace HB := Aside0.mk (HB.out.trans (hb.mono HB.out.size)); clear hb; obtain ⟨z0, z1, z2, z3, z4, z5⟩ := six_cells HZ.out; obtain ⟨y0, y1, y2, y3, y4, y5⟩ := six_frozen HZ.out)
    refine bodyPost_ret (results_ctt rfl _ _ (w.heap.size + 1) 26 _ (0, 0) _ rfl (six_put _ _ _ _ _ _ HZ.out) Try.underlying26 rfl (by kernel_rfl)) rfl ?_
    exact ⟨Ad.none, _, rfl, SysC_none _, World.ownsRow_nil _ _ _ _, six_below HB.out _ _ _ _ _ _⟩
  | true =>
    have e : xRun s l = runS s l := by unfold xRun; rw [hr]; rfl
    have e2 : eno true = 0 := rfl
    rw [e, e2]
    have HRR := Aside0.mk hr
    have HSH := Aside0.mk (HS.out hr)
    have HCb : Aside0 (∀ W, Below w.heap.size w W → w.heap.size + 1 < W.heap.size → W.heap[w.heap.size]? = some (.cells (sysA s p) 26 (0, 0)) → InBox P w.heap.size (.slice none 0 0) W s) := ⟨fun W h1 h3 h2 => ⟨⟨fun k => P k || (k == w.heap.size || k == w.heap.size + 1), p, fun k hk => by simp [hk], by simp, by simp, fun r hr => by simp [Value.ownBlock] at hr, fun k hk => by
      simp only [Bool.or_eq_true, beq_iff_eq] at hk
      rcases hk with hk | hk | hk
      · exact Nat.lt_of_lt_of_le (HP.out k hk) h1.size
      · omega
      · omega, h2, hC0.up (up_hid h1 (fun k hk h => by
      simp only [Bool.or_eq_true, beq_iff_eq] at h
      rcases h with h | h | h
      · exact h
      · omega
      · omega))⟩⟩⟩
    clear hr e e2 HS hC0 hP hl hbd hC hB1 hB2
    obtain ⟨a0, c0, a1, c1, a2, c2, a3, c3, a4, c4, a5, c5⟩ := p
    unfold sysA at *
    dsimp only at *
    go_enter Try.func9, Try.ntmps9
    go_wp2_with (go_at_call 20; refine HR.out.mono ?_; rintro e w2 ⟨rfl, hb⟩; rw [HRR.out]; replace HG := Aside0.mk (blk_below HG.out hb); replace HZ := Aside0.mk (blk_below HZ.out hb); replace HB := Aside0.mk (HB.out.trans (hb.mono HB.out.size)); clear hb)
    go_loopw [7, 18] (fun v7 v18 W => ∃ k : Nat, k ≤ l.length ∧ v18 = .int .i64 k ∧ Aside0 (RowI W (w.heap.size + 2) v7 (runTo s l k).2) ∧ Aside0 (Below w.heap.size w W) ∧ Aside0 (InBox P w.heap.size v7 W (runTo s l k).1) ∧ Aside0 (W.heap[w.heap.size + 1]? = some (.cells #[.slice none 0 0, .slice none 0 0, .slice none 0 0, .slice none 0 0, .slice none 0 0, .slice none 0 0] 26 (0, 0)))) (fun _ v18 _ => l.length - (intOf v18).toNat)
    case atStart => exact ⟨0, Nat.zero_le _, rfl, ⟨World.ownsRow_nil _ _ _ _⟩, HB, ⟨HCb.out _ HB.out (blk_lt HZ.out) HG.out⟩, HZ⟩
    case round => as_aux_lemma =>
      clear HB HG HZ HCb HR
      obtain ⟨k, hk, rfl, HR, HB, HI, HZ⟩ := hrel
      obtain ⟨⟨Q, p, h1, h2, h3, h4, h5, h6, h7⟩⟩ := HI
      have HQ1 := Aside0.mk h1
      have HQ2 := Aside0.mk h2
      have HQ3 := Aside0.mk h3
      have HQ4 := Aside0.mk h4
      have HQ5 := Aside0.mk h5
      have HG := Aside0.mk h6
      have HSYS := Aside0.mk h7
      clear h1 h2 h3 h4 h5 h6 h7
      have HSK := Aside0.mk (runTo_shp HSH.out l k)
      have hge : Aside0 (w.heap.size + 2 ≤ wr.heap.size) := ⟨blk_lt HZ.out⟩
      by_cases hlt : k < l.length
      · obtain ⟨q, hq⟩ : ∃ q, l[k]? = some q := ⟨_, List.getElem?_eq_getElem hlt⟩
        obtain ⟨ad, rfl, t0⟩ := Kd.at_int (Kd.C_below HL.out HB.out) (k : Int) (by omega) (by omega)
        rw [rdI hq, Int.toNat_natCast] at t0
        have HQ := Aside0.mk (runTo_succ (s := s) hq)
        have HSt := Aside0.mk (runTo_stop (s := s) (l := l) (k := k))
        have HLE := Aside0.mk (runTo_len s l k)
        clear hq
        generalize runTo s l k = r at *
        obtain ⟨s1, went⟩ := r
        dsimp only at *
        by_cases he : enL s1 = []
        · have HEN : Aside0 (∀ (p : Ad) (W : World), SysC W s1 p → Calls Try.prog 32 #[.agg (sysA s1 p)] W (fun e w' => ∃ B d, e = .returned (.slice B 0 d) ∧ Below W.heap.size W w')) := ⟨fun p W h => (enabled_calls s1 p W h HSK.out.1).mono (by
            rintro e w' ⟨v, rfl, hrow, hb⟩
            rw [he] at hrow
            obtain ⟨B, d, rfl⟩ := row_slice hrow
            exact ⟨B, d, rfl, hb⟩)⟩
          have HRS := Aside0.mk (HSt.out he)
          have HU := Aside0.mk (hid_up Q wr)
          clear he HSt HQ
          obtain ⟨a0, c0, a1, c1, a2, c2, a3, c3, a4, c4, a5, c5⟩ := p
          unfold sysA at HG HEN
          dsimp only at HG HEN
          obtain ⟨q0, q1, q2, q3, q4, q5⟩ := six_cells HG.out; obtain ⟨x0, x1, x2, x3, x4, x5⟩ := six_frozen HG.out
          go_wp2_with (go_at_call 32; refine (HEN.out ⟨a0, c0, a1, c1, a2, c2, a3, c3, a4, c4, a5, c5⟩ _ (HSYS.out.up HU.out)).mono ?_; rintro e w3 ⟨B, d, rfl, hb⟩; replace HG := Aside0.mk (blk_below HG.out hb); replace HZ := Aside0.mk (blk_below HZ.out hb); replace HR := Aside0.mk (below_row HR.out hb); replace HSYS := Aside0.mk (HSYS.out.up (up_hid hb (fun _ _ h => h))); replace HB := Aside0.mk (HB.out.trans (hb.mono HB.out.size)); clear q0 q1 q2 q3 q4 q5 x0 x1 x2 x3 x4 x5 hb; obtain ⟨q0, q1, q2, q3, q4, q5⟩ := six_cells HG.out; obtain ⟨x0, x1, x2, x3, x4, x5⟩ := six_frozen HG.out; obtain ⟨z0, z1, z2, z3, z4, z5⟩ := six_cells HZ.out; obtain ⟨y0, y1, y2, y3, y4, y5⟩ := six_frozen HZ.out)
          refine bodyPost_ret (results_ctt rfl _ _ (w.heap.size + 1) 26 _ (0, 0) _ rfl (six_put _ _ _ _ _ _ HZ.out) Try.underlying26 rfl (by kernel_rfl)) rfl ?_
          rw [HRS.out]
          exact ⟨⟨a0, c0, a1, c1, a2, c2, a3, c3, a4, c4, a5, c5⟩, _, rfl, HSYS.out.up ((hid_six HQ3.out).trans (hid_less _ HQ1.out)), own_weaken (rowI_six HR.out (Nat.lt_succ_self _)) (by omega), six_below HB.out _ _ _ _ _ _⟩
        · obtain ⟨pm1, pm2, pm3⟩ := pickT_mem q he
          obtain ⟨pc1, pc2⟩ := pickT_can q he
          obtain ⟨i, hi, hci⟩ := canB_some pc2
          have HPG := Aside0.mk (HQ.out.trans (pick1_go (r := (s1, went)) he q))
          have HST : Aside0 (∀ W, Below wr.heap.size wr W → Calls Try.prog 33 #[.agg (sysA s1 p), .int .i64 (pickT s1 q)] W (StepP (hid Q wr) (stepN s1 (pickT s1 q)) W)) := ⟨fun W h => by
            rw [stepN_eq hi]
            exact step_calls (hid Q wr) s1 p (pickT s1 q) i W HSYS.out ((hid_up Q wr).trans (up_below h)) HSK.out.1 pc1 hi hci⟩
          have HEN : Aside0 (∀ W, SysC W s1 p → Calls Try.prog 32 #[.agg (sysA s1 p)] W (fun e w' => ∃ g d, e = .returned (.slice (some ⟨g, 0, none⟩) (enL s1).length d) ∧ w'.cell? ⟨g, (pickI q (enL s1).length).toNat, none⟩ = some (.int .i64 (pickT s1 q)) ∧ Below W.heap.size W w')) := ⟨fun W h => (enabled_calls s1 p W h HSK.out.1).mono (by
            rintro e w' ⟨v, rfl, hrow, hb⟩
            obtain ⟨B, d, rfl⟩ := row_slice hrow
            obtain ⟨g, rfl, _, hcell, _⟩ := rowI_at hrow (pickI q (enL s1).length).toNat (pickT s1 q) (by rw [← pm2, List.getD_eq_getElem?_getD, List.getElem?_eq_getElem pm3]; rfl)
            exact ⟨g, d, rfl, hcell, hb⟩)⟩
          have hn8 : (enL s1).length ≤ s1.th.length := by
            unfold enL
            rw [List.length_map]
            exact Nat.le_trans (List.length_filter_le _ _) (by simp)
          have hn9 := HSK.out.1.n
          have hnp : 0 < (enL s1).length := List.length_pos_iff.2 he
          generalize hne : (enL s1).length = n at *
          have hpi := pickI_lt (q := q) (n := n) (by omega)
          obtain ⟨j, hj⟩ : ∃ j : Nat, pickI q n = j := ⟨(pickI q n).toNat, by omega⟩
          rw [hj, Int.toNat_natCast] at HEN
          have hjn : j < n := by omega
          have dk : ((n : Int) == 0) = false := beq_eq_false_iff_ne.mpr (by omega)
          have hjw := pick_eq hnp (by omega) hj
          have HHE := Aside0.mk he
          have HG0 := HG
          have HZ0 := HZ
          clear he pm1 pm2 pm3 pc1 pc2 hi hci HSt hj hpi hne HQ hn8 hn9 hnp
          dsimp only at HPG
          generalize pickT s1 q = t at *
          generalize stepN s1 t = s2 at *
          obtain ⟨a0, c0, a1, c1, a2, c2, a3, c3, a4, c4, a5, c5⟩ := p
          unfold sysA at HG HG0 HEN HST
          dsimp only at HG HG0 HEN HST
          obtain ⟨q0, q1, q2, q3, q4, q5⟩ := six_cells HG.out; obtain ⟨x0, x1, x2, x3, x4, x5⟩ := six_frozen HG.out
          go_wp2_with (first
            | (go_at_call 32; refine (HEN.out _ (HSYS.out.up (hid_up Q wr))).mono ?_; rintro e w3 ⟨gB, d, rfl, u0, hb⟩; replace HG := Aside0.mk (blk_below HG.out hb); replace HR := Aside0.mk (below_row HR.out hb); have HB3 := Aside0.mk hb; clear q0 q1 q2 q3 q4 q5 x0 x1 x2 x3 x4 x5 hb; obtain ⟨q0, q1, q2, q3, q4, q5⟩ := six_cells HG.out; obtain ⟨x0, x1, x2, x3, x4, x5⟩ := six_frozen HG.out)
            | (go_at_call 33; refine (HST.out _ HB3.out).mono ?_; rintro e w4 ⟨p4, b4, us4, rfl, hfin, hb4, hb⟩; replace HR := Aside0.mk (below_row HR.out hb); have HB4 := Aside0.mk (HB3.out.trans (hb.mono HB3.out.size)); have HS4 := Aside0.mk (hfin.hid (fun k hk => Nat.lt_of_lt_of_le (HQ5.out k hk) (Nat.le_trans HB3.out.size hb4)) HB4.out); clear q0 q1 q2 q3 q4 q5 x0 x1 x2 x3 x4 x5 hb hb4 hfin; dsimp only [sysA])
            | (at_builtin; refine hold ?_))
          refine ⟨?_⟩
          refine app_ints rfl _ _ rfl wr (w.heap.size + 2) _ went [(t : Int)] (some ⟨w4.heap.size, 0, none⟩) 1 1 rfl rfl (below_row HR.out ((Below.refl _ _).alloc (Nat.le_refl _) _)) (one_CI (blk_new w4 _)) ((HB4.out.mono hge.out).alloc (Nat.le_trans hge.out HB4.out.size) _) (by rw [alloc_size]; exact Nat.le_trans hge.out (Nat.le_trans HB4.out.size (Nat.le_succ _))) (by have := HLE.out; simp; omega) ?_
          intro v1 w5 hr hb hgr hat
          have HG5 := Aside0.mk (blk_low hb (Nat.lt_add_of_pos_right (by decide)) HG0.out)
          have HZ5 := Aside0.mk (blk_low hb (Nat.lt_succ_self _) HZ0.out)
          have HIB := Aside0.mk (InBox.grown HQ1.out HQ2.out HQ3.out HQ4.out (fun k hk => by rw [alloc_size]; exact Nat.lt_of_lt_of_le (HQ5.out k hk) (Nat.le_trans HB4.out.size (Nat.le_succ _))) (HS4.out.up (up_hid ((Below.refl _ _).alloc (Nat.le_refl _) _) (fun _ _ h => h))) hgr hat (rowI_lt hr) HG5.out)
          have HR5 := Aside0.mk hr
          have HB5 := Aside0.mk (HB.out.trans (hb.mono (Nat.le_add_right _ _)))
          clear hr hb hgr hat HG HG0 HZ HZ0
          obtain ⟨q0, q1, q2, q3, q4, q5⟩ := six_cells HG5.out
          obtain ⟨x0, x1, x2, x3, x4, x5⟩ := six_frozen HG5.out
          go_wp2
          go_roundw
          case rel => exact ⟨k + 1, hlt, by go_num, ⟨by rw [HPG.out]; exact rowI_six HR5.out (Nat.lt_add_of_pos_right (by decide))⟩, ⟨below_six HB5.out (Nat.le_refl _)⟩, ⟨by rw [HPG.out]; exact HIB.out⟩, ⟨blk_six_far HZ5.out (Nat.succ_ne_self _)⟩⟩
          case measure => simp [intOf]; omega
      · obtain rfl : k = l.length := by omega
        rw [runTo_all] at *
        obtain ⟨a0, c0, a1, c1, a2, c2, a3, c3, a4, c4, a5, c5⟩ := p
        generalize runS s l = r at *
        obtain ⟨s1, went⟩ := r
        unfold sysA at HG
        dsimp only at *
        obtain ⟨q0, q1, q2, q3, q4, q5⟩ := six_cells HG.out; obtain ⟨x0, x1, x2, x3, x4, x5⟩ := six_frozen HG.out
        obtain ⟨z0, z1, z2, z3, z4, z5⟩ := six_cells HZ.out; obtain ⟨y0, y1, y2, y3, y4, y5⟩ := six_frozen HZ.out
        go_wp2
        refine bodyPost_ret (results_ctt rfl _ _ (w.heap.size + 1) 26 _ (0, 0) _ rfl (six_put _ _ _ _ _ _ HZ.out) Try.underlying26 rfl (by kernel_rfl)) rfl ?_
        exact ⟨⟨a0, c0, a1, c1, a2, c2, a3, c3, a4, c4, a5, c5⟩, _, rfl, HSYS.out.up ((hid_six HQ3.out).trans (hid_less _ HQ1.out)), own_weaken (rowI_six HR.out (Nat.lt_succ_self _)) (by omega), six_below HB.out _ _ _ _ _ _⟩
end Go.Proofs.Ythnimpbcfegmjaa.Own
/-
  downpourlaw20.few, walked by hand.
-/
namespace Go.Proofs.Ythnimpbcfegmjaa.Own
open Go.RowKit Go.Proofs.YthnimpbcfegmjaaW.PrintWords Go.Proofs.YthnimpbcfegmjaaW.PrintLast Go.Proofs.YthnimpbcfegmjaaW.PrintMore Go.Proofs.Ythnimpbcfegmjaa.P Go.Proofs.Ythnimpbcfegmjaa.Model
set_option linter.unusedVariables false
set_option linter.unusedSimpArgs false
attribute [local go_sem] max2_int min2_int max_two min_two max_three min_three max_four min_four

def rowsL (l : List (List S44)) : List (List S44) := (l.take 10).map (fun t => t.take 18)
def cut12 (l : List Int) : List Int := l.take 12
theorem cut12_len (l : List Int) : (cut12 l).length = min l.length 12 := by unfold cut12; rw [List.length_take]; omega
def fewS (s : Syst) : Syst := ⟨rowsL s.th, cut12 s.at_, cut12 s.su, cut12 s.lo, cut12 s.ce, (s.ch.take 6).map cut12⟩
theorem mn_nat (n m : Nat) : mn (n : Int) (m : Int) = ((min n m : Nat) : Int) := by
  unfold mn
  split <;> omega
theorem take_min {α : Type} (l : List α) (m : Nat) : l.take (min l.length m) = l.take m := by
  rw [Nat.min_comm, List.take_eq_take_iff]
  omega
theorem rows_loop (l : List (List S44)) (hl : l.length ≤ 10) : ∀ (n i k : Nat) (x : List (List S44)), n = l.length - i → i ≤ l.length → n < k → x.length ≤ i → downpourlaw20_rows.l0 k x l (l.length : Int) (i : Int) = some (x ++ (l.drop i).map (fun t => t.take 18)) := by
  intro n
  induction n with
  | zero =>
    intro i k x hn hi hk hx
    obtain ⟨k, rfl⟩ : ∃ k', k = k' + 1 := ⟨k - 1, by omega⟩
    unfold downpourlaw20_rows.l0
    rw [if_neg (by omega), List.drop_eq_nil_of_le (by omega)]
    simp
  | succ n ih =>
    intro i k x hn hi hk hx
    obtain ⟨k, rfl⟩ : ∃ k', k = k' + 1 := ⟨k - 1, by omega⟩
    unfold downpourlaw20_rows.l0
    have hlt : i < l.length := by omega
    have e1 : rd_L2 l (i : Int) = l[i] := by unfold rd_L2; rw [Int.toNat_natCast, List.getD_eq_getElem?_getD, List.getElem?_eq_getElem hlt]; rfl
    have e2 : mn ((l[i].length : Nat) : Int) 18 = ((min l[i].length 18 : Nat) : Int) := mn_nat _ 18
    rw [if_pos (by omega), if_pos (by omega), if_pos (by omega), e1, e2, if_pos (by omega), if_pos (by omega), if_pos (by omega), Int.toNat_natCast, take_min]
    rw [show wrap64 ((i : Int) + 1) = ((i + 1 : Nat) : Int) by unfold wrap64; omega]
    rw [ih (i + 1) k _ (by omega) (by omega) (by omega) (by simp; omega), List.drop_eq_getElem_cons hlt, List.map_cons, List.append_assoc]
    rfl
theorem rows_f (l : List (List S44)) (k : Nat) (hk : 10 < k) : downpourlaw20_rows.f k l = some (rowsL l) := by
  unfold downpourlaw20_rows.f
  have e2 : mn ((l.length : Nat) : Int) 10 = ((min l.length 10 : Nat) : Int) := mn_nat _ 10
  rw [e2, if_pos (by omega), if_pos (by omega), Int.toNat_natCast, take_min, Option.bind_some]
  have hl : (l.take 10).length ≤ 10 := by rw [List.length_take]; omega
  rw [show (0 : Int) = ((0 : Nat) : Int) by rfl, rows_loop (l.take 10) hl (l.take 10).length 0 k [] rfl (Nat.zero_le _) (by omega) (by simp)]
  simp [rowsL]
theorem rowsL_len (l : List (List S44)) : (rowsL l).length ≤ 10 := by unfold rowsL; rw [List.length_map, List.length_take]; omega
set_option maxHeartbeats 4000000 in
theorem fewI_calls (A : Option Addr) (c : Nat) (l : List Int) (w : World) (hc : l.length ≤ c) : Calls Try.prog 31 #[.slice A l.length c] w fun e w' => e = .returned (.slice A (cut12 l).length c) ∧ w' = w := by
  obtain ⟨i, hi, hz0, -⟩ := info_parts info3
  have e1 := cut12_len l
  obtain ⟨n, hn⟩ : ∃ n : Nat, min l.length 12 = n := ⟨_, rfl⟩
  have qc := cut_to (P := Try.prog) 23 3 .i64 Try.underlying23 hi A l.length c (n : Int) (by omega) (by omega) hc
  have qm : (if 12 < (l.length : Int) then (12 : Int) else (l.length : Int)) = (n : Int) := by split <;> omega
  rw [Int.toNat_natCast] at qc
  rw [e1, hn]
  have HN := Aside0.mk hn
  clear hn e1
  go_enter Try.func31, Try.ntmps31
  go_wp2
  go_ret
  exact ⟨rfl, rfl⟩
section
variable {P : Program} {ops : Array Oper} {Q : Exit → Act → World → Prop}
/-- A call of a function value that lies in a slot. -/
theorem goesD_ {oi : Oper} {N : Option Tmp} {a : Act} {w : World} {K : Act → World → Prop} {f : FuncId} {fn : Func} {ars : Array Operand} {ts : Array TypeId} {o : Operand} (hf : P.funcs[f]? = some fn) (hname : (fn.name == "runtime.NumGoroutine") = false) (hb : fn.body.isSome = true) (args : Array Value)
    (hw : Region.wanted oi (yielded ops a.tmps) = true) (hN : oi.dst = N) (hop : oi.op = .call { callee := .value o, args := ars, argTypes := ts }) (ho : a.eval o = .func (.func f) #[] #[]) (hargs : ars.map a.eval = args)
    (h : Calls P f args w fun e w' => ∃ v, e = .returned v ∧ K (a.put N v) w') : if Region.wanted oi (yielded ops a.tmps) = true then Oper.wp P oi a w K Q else K (a.put N undef) w := by
  refine call_ f args hw hN ?_ h
  have he := enters_ hf hname hb args w
  unfold execOp
  simp [hop, resolve, Deferred.ofValue, invoke, ho, hargs, he]
end
theorem reads_cells {α : Type} {R R' : α → List Value → Prop} {size : Nat} {w w1 : World} {A : Option Addr} {n : Nat} {ps : List α} (h : ReadsRow R size w A n ps) (hb : ∀ {a : Addr} {v : Value}, w.cell? a = some v → w1.cell? a = some v) (hR : ∀ p c, R p c → R' p c) : ReadsRow R' size w1 A n ps := by
  refine ⟨h.1, h.2.1, fun hn => ?_⟩
  obtain ⟨ad, e, f⟩ := h.2.2 hn
  refine ⟨ad, e, fun j p hp => ?_⟩
  obtain ⟨c, h1, h2, h3⟩ := f j p hp
  exact ⟨c, h1, hR _ _ h2, fun i u hu => hb (h3 i u hu)⟩
theorem CT_cells {w w1 : World} {A : Option Addr} {xs : List (List S44)} (h : CT w A xs) (hb : ∀ {a : Addr} {v : Value}, w.cell? a = some v → w1.cell? a = some v) : CT w1 A xs := reads_cells h hb (fun _ _ hp => by
  obtain ⟨A0, c0, e, h1, h2⟩ := hp
  exact ⟨A0, c0, e, h1, reads_cells h2 hb (fun _ _ hp => hp)⟩)
/-- Outside the hidden blocks: a row as the printed contracts want it. -/
theorem V_of_hid {P : Nat → Bool} {w W : World} {A : Option Addr} {c base : Nat} {l : List (List S44)} (h : CT (hid P w) A l) (hc : l.length ≤ c) (hb : Below w.heap.size w W) : Kd.V (Kd.slice 44 k44) 42 W base (fun k => P k = false ∧ k < w.heap.size) (.slice A l.length c) l := by
  refine Kd.V_mk hc (fun W' hW => CT_cells h (fun {a v} ha => ?_))
  obtain ⟨h1, h2⟩ := hid_cell ha
  have hlt := World.block_lt_of_cell? w a h2
  exact (World.cell?_of_block (w := w) ((hW _ ⟨h1, hlt⟩ (Nat.lt_of_lt_of_le hlt hb.size)).trans (hb.block _ hlt))).trans h2
/-- And what they answer lies outside the hidden blocks. -/
theorem hid_of_N {P : Nat → Bool} {W : World} {ok : Nat → Prop} {base : Nat} {v : Value} {l : List (List S44)} (h : Kd.N (Kd.slice 44 k44) 42 W base ok v l) (hP : ∀ k, ok k → P k = false) : ∃ A c, v = .slice A l.length c ∧ l.length ≤ c ∧ CT (hid P W) A l := by
  obtain ⟨A, c, rfl, hc, -⟩ := Kd.N_reads h
  exact ⟨A, c, rfl, hc, Kd.N_F h _ (fun k hk _ => hid_at (hP k hk))⟩
end Go.Proofs.Ythnimpbcfegmjaa.Own

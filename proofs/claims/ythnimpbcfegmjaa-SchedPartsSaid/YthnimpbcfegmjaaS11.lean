/-
  sched.Enabled, sched.Done, walked by hand.
-/
import Derived.Test.YthnimpbcfegmjaaS10
namespace Go.Proofs.Ythnimpbcfegmjaa.Own
open Go.RowKit Go.Proofs.YthnimpbcfegmjaaW.PrintWords Go.Proofs.YthnimpbcfegmjaaW.PrintLast Go.Proofs.YthnimpbcfegmjaaW.PrintMore Go.Proofs.Ythnimpbcfegmjaa.P Go.Proofs.Ythnimpbcfegmjaa.Model
set_option linter.unusedVariables false
set_option linter.unusedSimpArgs false

def eno (b : Bool) : Int := if b then 0 else 1
def EnabledP (s : Syst) (w : World) (e : Ending) (w' : World) : Prop := ∃ v, e = .returned (.tuple #[v, .int .i64 (eno (rightB s))]) ∧ RowI w' w.heap.size v (if rightB s = true then enL s else []) ∧ Below w.heap.size w w'
set_option maxRecDepth 100000 in
set_option maxHeartbeats 4000000 in
theorem xEnabled_calls (s : Syst) (p : Ad) (w : World) (hC : SysC w s p) (hbd : Bd s) : Calls Try.prog 23 #[.agg (sysA s p)] w (EnabledP s w) := by
  have hB1 : Below w.heap.size w (w.alloc (.cells (sysA s p) 26)) := (Below.refl _ _).alloc (Nat.le_refl _) _
  have HB1 := Aside0.mk hB1
  have HR := Aside0.mk (right_calls s p _ (hC.below hB1) hbd)
  have HC := Aside0.mk hC
  have HE : Aside0 (∀ W, Below w.heap.size w W → rightB s = true → Calls Try.prog 32 #[.agg (sysA s p)] W (EnP s W)) := ⟨fun W h hr => enabled_calls s p W (hC.below h) (right_shp hr)⟩
  have HG := Aside0.mk (blk_new w (.cells (sysA s p) 26))
  obtain ⟨a0, c0, a1, c1, a2, c2, a3, c3, a4, c4, a5, c5⟩ := p
  unfold sysA at *
  dsimp only at *
  clear hB1 hC hbd
  cases hr : rightB s with
  | false =>
    have HQ : Aside0 (EnabledP s w = fun e w' => ∃ v, e = .returned (.tuple #[v, .int .i64 1]) ∧ RowI w' w.heap.size v [] ∧ Below w.heap.size w w') := ⟨by unfold EnabledP; rw [hr]; rfl⟩
    rw [HQ.out]
    have HRR := Aside0.mk hr
    clear hr
    go_enter Try.func23, Try.ntmps23
    go_wp2_with (go_at_call 20; refine HR.out.mono ?_; rintro e w2 ⟨rfl, hb⟩; rw [HRR.out]; have HB2 := Aside0.mk (HB1.out.trans (hb.mono HB1.out.size)); clear hb)
    go_ret2
    exact ⟨_, rfl, World.ownsRow_nil _ _ _ _, HB2.out⟩
  | true =>
    have HQ : Aside0 (EnabledP s w = fun e w' => ∃ v, e = .returned (.tuple #[v, .int .i64 0]) ∧ RowI w' w.heap.size v (enL s) ∧ Below w.heap.size w w') := ⟨by unfold EnabledP; rw [hr]; rfl⟩
    rw [HQ.out]
    have HRR := Aside0.mk hr
    clear hr
    go_enter Try.func23, Try.ntmps23
    go_wp2_with (first
      | (go_at_call 20; refine HR.out.mono ?_; rintro e w2 ⟨rfl, hb⟩; rw [HRR.out]; have HB2 := Aside0.mk (HB1.out.trans (hb.mono HB1.out.size)); have hg := blk_below HG.out hb; have q0 := blk_cell hg 0; have q1 := blk_cell hg 1; have q2 := blk_cell hg 2; have q3 := blk_cell hg 3; have q4 := blk_cell hg 4; have q5 := blk_cell hg 5; clear hb hg)
      | (go_at_call 32; refine (HE.out _ HB2.out HRR.out).mono ?_; rintro e w3 ⟨v, rfl, hrow, hb⟩; have HR3 := Aside0.mk (own_weaken hrow HB2.out.size); have HB3 := Aside0.mk (HB2.out.trans (hb.mono HB2.out.size)); clear hb hrow))
    go_ret2
    exact ⟨_, rfl, HR3.out, HB3.out⟩
end Go.Proofs.Ythnimpbcfegmjaa.Own

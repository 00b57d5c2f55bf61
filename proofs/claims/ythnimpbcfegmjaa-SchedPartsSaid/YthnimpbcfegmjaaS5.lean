/-
  sched.can and sched.enabled, walked by hand.
-/
import Derived.Test.YthnimpbcfegmjaaS4
import Derived.Deep.QuietTactic
import Derived.BigQuiet
namespace Go.Proofs.Ythnimpbcfegmjaa.Own
open Go.RowKit Go.Proofs.YthnimpbcfegmjaaW.PrintWords Go.Proofs.YthnimpbcfegmjaaW.PrintLast Go.Proofs.YthnimpbcfegmjaaW.PrintMore Go.Proofs.Ythnimpbcfegmjaa.P Go.Proofs.Ythnimpbcfegmjaa.Model
set_option linter.unusedVariables false

theorem always_calls (s : Syst) (p : Ad) (i : S44) (w : World) : Calls Try.prog 65 #[.agg (sysA s p), iv i] w (Ret true w) := by
  obtain ⟨a0, c0, a1, c1, a2, c2, a3, c3, a4, c4, a5, c5⟩ := p
  unfold sysA
  dsimp only
  go_enter Try.func65, Try.ntmps65
  go_wp2
  go_ret
  exact ⟨rfl, ((Below.refl _ _).alloc (Nat.le_refl _) _).alloc (by simp) _⟩
set_option maxRecDepth 100000 in
set_option maxHeartbeats 4000000 in
theorem can_calls (s : Syst) (p : Ad) (t : Nat) (w : World) (hC : SysC w s p) (hS : Shp s) (ht : t < s.th.length) : Calls Try.prog 52 #[.agg (sysA s p), .int .i64 t] w (Ret (canB s t) w) := by
  obtain ⟨l, hl⟩ : ∃ l, s.th[t]? = some l := ⟨_, List.getElem?_eq_getElem ht⟩
  have htA : t < s.at_.length := by have := hS.at_; omega
  obtain ⟨a, ha⟩ : ∃ a, s.at_[t]? = some a := ⟨_, List.getElem?_eq_getElem htA⟩
  obtain ⟨hl16, ha0, hal, hok⟩ := hS.th t l a hl ha
  obtain ⟨k, rfl⟩ : ∃ k : Nat, a = k := ⟨a.toNat, by omega⟩
  have hB1 : Below w.heap.size w (w.alloc (.cells (sysA s p) 26)) := (Below.refl _ _).alloc (Nat.le_refl _) _
  have HB1 := Aside0.mk hB1
  have HC := Aside0.mk hC
  have hCw := hC.below hB1
  obtain ⟨ad, A1, cc, e0, t0, t1, t2⟩ := at_L2 hCw.r0 (t : Int) (by omega) (by omega)
  obtain ⟨ad1, e1, t3⟩ := Kd.at_int hCw.r1 (t : Int) (by omega) (by omega)
  rw [rdT hl] at t0 t1 t2
  rw [rdI ha] at t3
  rw [Int.toNat_natCast] at t0 t3
  have HS := Aside0.mk hS
  have hins : insA s t = l[k]? := by unfold insA; rw [hl, ha]; simp
  have HOK := Aside0.mk hok
  obtain ⟨a0, c0, a1, c1, a2, c2, a3, c3, a4, c4, a5, c5⟩ := p
  unfold sysA at *
  dsimp only at *
  subst e0 e1
  clear hC hCw hB1 hS ha hl hok
  by_cases hk : k < l.length
  · obtain ⟨i, hi⟩ : ∃ i, l[k]? = some i := ⟨_, List.getElem?_eq_getElem hk⟩
    have hcan : canB s t = canI s i := by unfold canB; rw [hins, hi]
    rw [hcan]
    obtain ⟨ad2, e2, u0, u1, u2⟩ := at_T44 t2 (k : Int) (by omega) (by omega)
    subst e2
    rw [rd44 hi, Int.toNat_natCast] at u0 u1 u2
    have dk : ((k : Int) == (l.length : Int)) = false := beq_eq_false_iff_ne.mpr (by omega)
    have HOI : Aside0 (okI i = true) := ⟨HOK.out i (List.mem_of_getElem? hi)⟩
    clear hins hcan hi t2
    go_enter Try.func52, Try.ntmps52
    go_wp2
    have HG := Aside0.mk (blk_new w (.cells #[.slice (some ad) s.th.length c0, .slice (some ad1) s.at_.length c1, .slice a2 s.su.length c2, .slice a3 s.lo.length c3, .slice a4 s.ce.length c4, .slice a5 s.ch.length c5] 26))
    have q0 : (w.alloc (.cells #[.slice (some ad) s.th.length c0, .slice (some ad1) s.at_.length c1, .slice a2 s.su.length c2, .slice a3 s.lo.length c3, .slice a4 s.ce.length c4, .slice a5 s.ch.length c5] 26)).cell? ⟨w.heap.size, 0, none⟩ = some (.slice (some ad) s.th.length c0) := blk_cell HG.out 0
    have q1 : (w.alloc (.cells #[.slice (some ad) s.th.length c0, .slice (some ad1) s.at_.length c1, .slice a2 s.su.length c2, .slice a3 s.lo.length c3, .slice a4 s.ce.length c4, .slice a5 s.ch.length c5] 26)).cell? ⟨w.heap.size, 1, none⟩ = some (.slice (some ad1) s.at_.length c1) := blk_cell HG.out 1
    generalize w.alloc (.cells #[.slice (some ad) s.th.length c0, .slice (some ad1) s.at_.length c1, .slice a2 s.su.length c2, .slice a3 s.lo.length c3, .slice a4 s.ce.length c4, .slice a5 s.ch.length c5] 26) = w1 at *
    go_quiet (fail)
    replace q0 := pw_cell_below (pw_below_drewN (Below.refl w1.heap.size w1) nq) q0
    replace q1 := pw_cell_below (pw_below_drewN (Below.refl w1.heap.size w1) nq) q1
    replace t0 := pw_cell_below (pw_below_drewN (Below.refl w1.heap.size w1) nq) t0
    replace t3 := pw_cell_below (pw_below_drewN (Below.refl w1.heap.size w1) nq) t3
    replace u0 := pw_cell_below (pw_below_drewN (Below.refl w1.heap.size w1) nq) u0
    replace u1 := pw_cell_below (pw_below_drewN (Below.refl w1.heap.size w1) nq) u1
    replace u2 := pw_cell_below (pw_below_drewN (Below.refl w1.heap.size w1) nq) u2
    replace HG := Aside0.mk (blk_below HG.out (pw_below_drewN (Below.refl w1.heap.size w1) nq))
    have HB2 := Aside0.mk (pw_below_drewN HB1.out nq)
    generalize w1.drewN nq = w2 at *
    clear HB1
    have hBA := (Below.refl w2.heap.size w2).alloc (Nat.le_refl _) (.cells #[.int .i64 0, .int .i64 0, .int .i64 0] 44)
    have q0' := pw_cell_below hBA q0
    have q1' := pw_cell_below hBA q1
    have t0' := pw_cell_below hBA t0
    have t3' := pw_cell_below hBA t3
    have u0' := pw_cell_below hBA u0
    have u1' := pw_cell_below hBA u1
    have u2' := pw_cell_below hBA u2
    clear hBA
    go_wp2
    go_region
    clear q0 q1 t0 t3 u0 u1 u2 q0' q1' t0' t3' u0' u1' u2'
    have hB3 := (below_drew ((Below.refl w2.heap.size w2).alloc (Nat.le_refl _) (.cells #[.int .i64 i.f0, .int .i64 i.f1, .int .i64 i.f2] 44)))
    have HB3 := Aside0.mk (HB2.out.trans (hB3.mono HB2.out.size))
    have hG3 := blk_below HG.out hB3
    have hI3 : ((w2.alloc (.cells #[.int .i64 i.f0, .int .i64 i.f1, .int .i64 i.f2] 44)).drew).heap[w2.heap.size]? = some (.cells #[.int .i64 i.f0, .int .i64 i.f1, .int .i64 i.f2] 44 (0, 0)) := blk_new w2 _
    generalize (w2.alloc (.cells #[.int .i64 i.f0, .int .i64 i.f1, .int .i64 i.f2] 44)).drew = w3 at *
    have q0 : w3.cell? ⟨w.heap.size, 0, none⟩ = some (.slice (some ad) s.th.length c0) := blk_cell hG3 0
    have q1 : w3.cell? ⟨w.heap.size, 1, none⟩ = some (.slice (some ad1) s.at_.length c1) := blk_cell hG3 1
    have q2 : w3.cell? ⟨w.heap.size, 2, none⟩ = some (.slice a2 s.su.length c2) := blk_cell hG3 2
    have q3 : w3.cell? ⟨w.heap.size, 3, none⟩ = some (.slice a3 s.lo.length c3) := blk_cell hG3 3
    have q4 : w3.cell? ⟨w.heap.size, 4, none⟩ = some (.slice a4 s.ce.length c4) := blk_cell hG3 4
    have q5 : w3.cell? ⟨w.heap.size, 5, none⟩ = some (.slice a5 s.ch.length c5) := blk_cell hG3 5
    have i0 : w3.cell? ⟨w2.heap.size, 0, none⟩ = some (.int .i64 i.f0) := blk_cell hI3 0
    have i1 : w3.cell? ⟨w2.heap.size, 1, none⟩ = some (.int .i64 i.f1) := blk_cell hI3 1
    have i2 : w3.cell? ⟨w2.heap.size, 2, none⟩ = some (.int .i64 i.f2) := blk_cell hI3 2
    clear hB3 hG3 hI3 HG HB2
    have HC3 := Aside0.mk (HC.out.below (below_drew HB3.out))
    obtain ⟨o, na, n⟩ := i
    dsimp only at *
    obtain ⟨ho0, ho4, -⟩ := okI_bounds HOI.out
    dsimp only at ho0 ho4
    have HH : ∀ {o' : Int}, Aside0 (okI ⟨o', na, n⟩ = true) → okI ⟨o', na, n⟩ = true := fun h => h.out
    have hcases : o = 0 ∨ o = 1 ∨ o = 2 ∨ o = 3 ∨ o = 4 := by omega
    clear ho0 ho4
    have h4l : Aside0 (s.lo.length = 4) := ⟨HS.out.lo⟩
    have h4c : Aside0 (s.ch.length = 4) := ⟨HS.out.ch⟩
    rcases hcases with rfl | rfl | rfl | rfl | rfl
    · as_aux_lemma =>
      have qx : ∀ w : World, (Instr.index 82 kindsV (.int .i64 0)).run Try.prog w = .ok (.agg #[fn 63, fn 64]) w := fun _ => by kernel_rfl
      have qy : ∀ w : World, (Instr.field 81 (.agg #[fn 63, fn 64]) 0).run Try.prog w = .ok (fn 63) w := fun _ => by kernel_rfl
      go_wp2 
      go_region_held3 (fun w' => w'.cell? ⟨w.heap.size, 0, none⟩ = some (.slice (some ad) s.th.length c0) ∧ w'.cell? ⟨w.heap.size, 1, none⟩ = some (.slice (some ad1) s.at_.length c1) ∧ w'.cell? ⟨w.heap.size, 2, none⟩ = some (.slice a2 s.su.length c2) ∧ w'.cell? ⟨w.heap.size, 3, none⟩ = some (.slice a3 s.lo.length c3) ∧ w'.cell? ⟨w.heap.size, 4, none⟩ = some (.slice a4 s.ce.length c4) ∧ w'.cell? ⟨w.heap.size, 5, none⟩ = some (.slice a5 s.ch.length c5) ∧ w'.cell? ⟨w2.heap.size, 0, none⟩ = some (.int .i64 0) ∧ w'.cell? ⟨w2.heap.size, 1, none⟩ = some (.int .i64 na) ∧ w'.cell? ⟨w2.heap.size, 2, none⟩ = some (.int .i64 n)) (go_keep) ((first | (go_at_call 58; refine (kinds_calls _).mono ?_; rintro e w' ⟨rfl, hb⟩; replace q0 := pw_cell_below hb q0; replace q1 := pw_cell_below hb q1; replace q2 := pw_cell_below hb q2; replace q3 := pw_cell_below hb q3; replace q4 := pw_cell_below hb q4; replace q5 := pw_cell_below hb q5; replace i0 := pw_cell_below hb i0; replace i1 := pw_cell_below hb i1; replace i2 := pw_cell_below hb i2; have HB58 := Aside0.mk hb; clear hb) | (go_at_call 63; refine (lockFree_calls s _ ⟨0, na, n⟩ _ (HC3.out.below HB58.out) HOI.out h4l.out).mono ?_; rintro e w'' ⟨rfl, hb⟩; replace q0 := pw_cell_below hb q0; replace q1 := pw_cell_below hb q1; replace q2 := pw_cell_below hb q2; replace q3 := pw_cell_below hb q3; replace q4 := pw_cell_below hb q4; replace q5 := pw_cell_below hb q5; replace i0 := pw_cell_below hb i0; replace i1 := pw_cell_below hb i1; replace i2 := pw_cell_below hb i2; have HB59 := Aside0.mk hb; clear hb)))
      all_goals (go_wp2; go_ret; exact ⟨by simp [canI], (below_drew HB3.out).trans ((HB58.out.trans (HB59.out.mono HB58.out.size)).mono (below_drew HB3.out).size)⟩)
    · as_aux_lemma =>
      have qx : ∀ w : World, (Instr.index 82 kindsV (.int .i64 1)).run Try.prog w = .ok (.agg #[fn 65, fn 66]) w := fun _ => by kernel_rfl
      have qy : ∀ w : World, (Instr.field 81 (.agg #[fn 65, fn 66]) 0).run Try.prog w = .ok (fn 65) w := fun _ => by kernel_rfl
      go_wp2 
      go_region_held3 (fun w' => w'.cell? ⟨w.heap.size, 0, none⟩ = some (.slice (some ad) s.th.length c0) ∧ w'.cell? ⟨w.heap.size, 1, none⟩ = some (.slice (some ad1) s.at_.length c1) ∧ w'.cell? ⟨w.heap.size, 2, none⟩ = some (.slice a2 s.su.length c2) ∧ w'.cell? ⟨w.heap.size, 3, none⟩ = some (.slice a3 s.lo.length c3) ∧ w'.cell? ⟨w.heap.size, 4, none⟩ = some (.slice a4 s.ce.length c4) ∧ w'.cell? ⟨w.heap.size, 5, none⟩ = some (.slice a5 s.ch.length c5) ∧ w'.cell? ⟨w2.heap.size, 0, none⟩ = some (.int .i64 1) ∧ w'.cell? ⟨w2.heap.size, 1, none⟩ = some (.int .i64 na) ∧ w'.cell? ⟨w2.heap.size, 2, none⟩ = some (.int .i64 n)) (go_keep) ((first | (go_at_call 58; refine (kinds_calls _).mono ?_; rintro e w' ⟨rfl, hb⟩; replace q0 := pw_cell_below hb q0; replace q1 := pw_cell_below hb q1; replace q2 := pw_cell_below hb q2; replace q3 := pw_cell_below hb q3; replace q4 := pw_cell_below hb q4; replace q5 := pw_cell_below hb q5; replace i0 := pw_cell_below hb i0; replace i1 := pw_cell_below hb i1; replace i2 := pw_cell_below hb i2; have HB58 := Aside0.mk hb; clear hb) | (go_at_call 65; refine (always_calls s ⟨some ad, c0, some ad1, c1, a2, c2, a3, c3, a4, c4, a5, c5⟩ ⟨1, na, n⟩ _).mono ?_; rintro e w'' ⟨rfl, hb⟩; replace q0 := pw_cell_below hb q0; replace q1 := pw_cell_below hb q1; replace q2 := pw_cell_below hb q2; replace q3 := pw_cell_below hb q3; replace q4 := pw_cell_below hb q4; replace q5 := pw_cell_below hb q5; replace i0 := pw_cell_below hb i0; replace i1 := pw_cell_below hb i1; replace i2 := pw_cell_below hb i2; have HB59 := Aside0.mk hb; clear hb)))
      all_goals (go_wp2; go_ret; exact ⟨by simp [canI], (below_drew HB3.out).trans ((HB58.out.trans (HB59.out.mono HB58.out.size)).mono (below_drew HB3.out).size)⟩)
    · as_aux_lemma =>
      have qx : ∀ w : World, (Instr.index 82 kindsV (.int .i64 2)).run Try.prog w = .ok (.agg #[fn 65, fn 67]) w := fun _ => by kernel_rfl
      have qy : ∀ w : World, (Instr.field 81 (.agg #[fn 65, fn 67]) 0).run Try.prog w = .ok (fn 65) w := fun _ => by kernel_rfl
      go_wp2 
      go_region_held3 (fun w' => w'.cell? ⟨w.heap.size, 0, none⟩ = some (.slice (some ad) s.th.length c0) ∧ w'.cell? ⟨w.heap.size, 1, none⟩ = some (.slice (some ad1) s.at_.length c1) ∧ w'.cell? ⟨w.heap.size, 2, none⟩ = some (.slice a2 s.su.length c2) ∧ w'.cell? ⟨w.heap.size, 3, none⟩ = some (.slice a3 s.lo.length c3) ∧ w'.cell? ⟨w.heap.size, 4, none⟩ = some (.slice a4 s.ce.length c4) ∧ w'.cell? ⟨w.heap.size, 5, none⟩ = some (.slice a5 s.ch.length c5) ∧ w'.cell? ⟨w2.heap.size, 0, none⟩ = some (.int .i64 2) ∧ w'.cell? ⟨w2.heap.size, 1, none⟩ = some (.int .i64 na) ∧ w'.cell? ⟨w2.heap.size, 2, none⟩ = some (.int .i64 n)) (go_keep) ((first | (go_at_call 58; refine (kinds_calls _).mono ?_; rintro e w' ⟨rfl, hb⟩; replace q0 := pw_cell_below hb q0; replace q1 := pw_cell_below hb q1; replace q2 := pw_cell_below hb q2; replace q3 := pw_cell_below hb q3; replace q4 := pw_cell_below hb q4; replace q5 := pw_cell_below hb q5; replace i0 := pw_cell_below hb i0; replace i1 := pw_cell_below hb i1; replace i2 := pw_cell_below hb i2; have HB58 := Aside0.mk hb; clear hb) | (go_at_call 65; refine (always_calls s ⟨some ad, c0, some ad1, c1, a2, c2, a3, c3, a4, c4, a5, c5⟩ ⟨2, na, n⟩ _).mono ?_; rintro e w'' ⟨rfl, hb⟩; replace q0 := pw_cell_below hb q0; replace q1 := pw_cell_below hb q1; replace q2 := pw_cell_below hb q2; replace q3 := pw_cell_below hb q3; replace q4 := pw_cell_below hb q4; replace q5 := pw_cell_below hb q5; replace i0 := pw_cell_below hb i0; replace i1 := pw_cell_below hb i1; replace i2 := pw_cell_below hb i2; have HB59 := Aside0.mk hb; clear hb)))
      all_goals (go_wp2; go_ret; exact ⟨by simp [canI], (below_drew HB3.out).trans ((HB58.out.trans (HB59.out.mono HB58.out.size)).mono (below_drew HB3.out).size)⟩)
    · as_aux_lemma =>
      have qx : ∀ w : World, (Instr.index 82 kindsV (.int .i64 3)).run Try.prog w = .ok (.agg #[fn 68, fn 69]) w := fun _ => by kernel_rfl
      have qy : ∀ w : World, (Instr.field 81 (.agg #[fn 68, fn 69]) 0).run Try.prog w = .ok (fn 68) w := fun _ => by kernel_rfl
      go_wp2 
      go_region_held3 (fun w' => w'.cell? ⟨w.heap.size, 0, none⟩ = some (.slice (some ad) s.th.length c0) ∧ w'.cell? ⟨w.heap.size, 1, none⟩ = some (.slice (some ad1) s.at_.length c1) ∧ w'.cell? ⟨w.heap.size, 2, none⟩ = some (.slice a2 s.su.length c2) ∧ w'.cell? ⟨w.heap.size, 3, none⟩ = some (.slice a3 s.lo.length c3) ∧ w'.cell? ⟨w.heap.size, 4, none⟩ = some (.slice a4 s.ce.length c4) ∧ w'.cell? ⟨w.heap.size, 5, none⟩ = some (.slice a5 s.ch.length c5) ∧ w'.cell? ⟨w2.heap.size, 0, none⟩ = some (.int .i64 3) ∧ w'.cell? ⟨w2.heap.size, 1, none⟩ = some (.int .i64 na) ∧ w'.cell? ⟨w2.heap.size, 2, none⟩ = some (.int .i64 n)) (go_keep) ((first | (go_at_call 58; refine (kinds_calls _).mono ?_; rintro e w' ⟨rfl, hb⟩; replace q0 := pw_cell_below hb q0; replace q1 := pw_cell_below hb q1; replace q2 := pw_cell_below hb q2; replace q3 := pw_cell_below hb q3; replace q4 := pw_cell_below hb q4; replace q5 := pw_cell_below hb q5; replace i0 := pw_cell_below hb i0; replace i1 := pw_cell_below hb i1; replace i2 := pw_cell_below hb i2; have HB58 := Aside0.mk hb; clear hb) | (go_at_call 68; refine (hasRoom_calls s _ ⟨3, na, n⟩ _ (HC3.out.below HB58.out) HOI.out h4c.out).mono ?_; rintro e w'' ⟨rfl, hb⟩; replace q0 := pw_cell_below hb q0; replace q1 := pw_cell_below hb q1; replace q2 := pw_cell_below hb q2; replace q3 := pw_cell_below hb q3; replace q4 := pw_cell_below hb q4; replace q5 := pw_cell_below hb q5; replace i0 := pw_cell_below hb i0; replace i1 := pw_cell_below hb i1; replace i2 := pw_cell_below hb i2; have HB59 := Aside0.mk hb; clear hb)))
      all_goals (go_wp2; go_ret; exact ⟨by simp [canI], (below_drew HB3.out).trans ((HB58.out.trans (HB59.out.mono HB58.out.size)).mono (below_drew HB3.out).size)⟩)
    · as_aux_lemma =>
      have qx : ∀ w : World, (Instr.index 82 kindsV (.int .i64 4)).run Try.prog w = .ok (.agg #[fn 71, fn 72]) w := fun _ => by kernel_rfl
      have qy : ∀ w : World, (Instr.field 81 (.agg #[fn 71, fn 72]) 0).run Try.prog w = .ok (fn 71) w := fun _ => by kernel_rfl
      go_wp2 
      go_region_held3 (fun w' => w'.cell? ⟨w.heap.size, 0, none⟩ = some (.slice (some ad) s.th.length c0) ∧ w'.cell? ⟨w.heap.size, 1, none⟩ = some (.slice (some ad1) s.at_.length c1) ∧ w'.cell? ⟨w.heap.size, 2, none⟩ = some (.slice a2 s.su.length c2) ∧ w'.cell? ⟨w.heap.size, 3, none⟩ = some (.slice a3 s.lo.length c3) ∧ w'.cell? ⟨w.heap.size, 4, none⟩ = some (.slice a4 s.ce.length c4) ∧ w'.cell? ⟨w.heap.size, 5, none⟩ = some (.slice a5 s.ch.length c5) ∧ w'.cell? ⟨w2.heap.size, 0, none⟩ = some (.int .i64 4) ∧ w'.cell? ⟨w2.heap.size, 1, none⟩ = some (.int .i64 na) ∧ w'.cell? ⟨w2.heap.size, 2, none⟩ = some (.int .i64 n)) (go_keep) ((first | (go_at_call 58; refine (kinds_calls _).mono ?_; rintro e w' ⟨rfl, hb⟩; replace q0 := pw_cell_below hb q0; replace q1 := pw_cell_below hb q1; replace q2 := pw_cell_below hb q2; replace q3 := pw_cell_below hb q3; replace q4 := pw_cell_below hb q4; replace q5 := pw_cell_below hb q5; replace i0 := pw_cell_below hb i0; replace i1 := pw_cell_below hb i1; replace i2 := pw_cell_below hb i2; have HB58 := Aside0.mk hb; clear hb) | (go_at_call 71; refine (hasSome_calls s _ ⟨4, na, n⟩ _ (HC3.out.below HB58.out) HOI.out h4c.out).mono ?_; rintro e w'' ⟨rfl, hb⟩; replace q0 := pw_cell_below hb q0; replace q1 := pw_cell_below hb q1; replace q2 := pw_cell_below hb q2; replace q3 := pw_cell_below hb q3; replace q4 := pw_cell_below hb q4; replace q5 := pw_cell_below hb q5; replace i0 := pw_cell_below hb i0; replace i1 := pw_cell_below hb i1; replace i2 := pw_cell_below hb i2; have HB59 := Aside0.mk hb; clear hb)))
      all_goals (go_wp2; go_ret; exact ⟨by simp [canI], (below_drew HB3.out).trans ((HB58.out.trans (HB59.out.mono HB58.out.size)).mono (below_drew HB3.out).size)⟩)
  · obtain rfl : k = l.length := by omega
    have hcan : canB s t = false := by unfold canB; rw [hins, List.getElem?_eq_none (Nat.le_refl _)]
    rw [hcan]
    clear hins hcan t2
    go_enter Try.func52, Try.ntmps52
    go_wp2
    go_quiet (fail)
    go_wp2
    go_ret
    exact ⟨rfl, pw_below_drewN HB1.out _⟩
end Go.Proofs.Ythnimpbcfegmjaa.Own

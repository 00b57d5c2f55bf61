/-
  The law SchedParts, walked by hand: picks, and then others, are all of them at once; each picks a thread that can go on.
-/
import Derived.Test.YthnimpbcfegmjaaS19
import Derived.Test.YthnimpbcfegmjaaPl1
namespace Go.Proofs.Ythnimpbcfegmjaa.Own
open Go.RowKit Go.Proofs.YthnimpbcfegmjaaW.PrintWords Go.Proofs.YthnimpbcfegmjaaW.PrintLast Go.Proofs.YthnimpbcfegmjaaW.PrintMore Go.Proofs.Ythnimpbcfegmjaa.P Go.Proofs.Ythnimpbcfegmjaa.Model
set_option linter.unusedVariables false
set_option linter.unusedSimpArgs false
attribute [local go_sem] max2_int min2_int max_two min_two max_three min_three max_four min_four

def RunQ (P : Nat → Bool) (r : Syst × List Int) (code : Int) (W : World) (e : Ending) (w' : World) : Prop := ∃ q B d, e = .returned (.tuple #[.agg (sysA r.1 q), .slice B r.2.length d, .int .i64 code]) ∧ SysC (hid P w') r.1 q ∧ RowI w' W.heap.size (.slice B r.2.length d) r.2 ∧ Below W.heap.size W w'
theorem run_right {P : Nat → Bool} {S : Syst} {p : Ad} {A : Option Addr} {c n : Nat} {l : List Int} {r : Syst × List Int} {W : World} (hr : rightB S = true) (hbd : Bd S) (hC : SysC (hid P W) S p) (hP : ∀ k, P k = true → k < W.heap.size) (hl : CI W A l) (hn : l.length = n ∧ n ≤ 60) (he : runS S l = r) : Calls Try.prog 9 #[.agg (sysA S p), .slice A n c] W (RunQ P r 0 W) := by
  obtain ⟨rfl, h60⟩ := hn
  subst he
  refine (xRun_calls P S p A c l W hC hP hbd hl (by omega)).mono ?_
  rintro e w' ⟨q, v, rfl, hs, hrow, hb⟩
  have hx : xRun S l = runS S l := by unfold xRun; rw [if_pos hr]
  rw [hx] at hs hrow ⊢
  rw [hr]
  obtain ⟨B, d, rfl⟩ := row_slice hrow
  exact ⟨q, B, d, rfl, hs, hrow, hb⟩
theorem run_wrong {P : Nat → Bool} {S : Syst} {p : Ad} {A : Option Addr} {c n : Nat} {l : List Int} {W : World} (hr : rightB S = false) (hbd : Bd S) (hC : SysC (hid P W) S p) (hP : ∀ k, P k = true → k < W.heap.size) (hl : CI W A l) (hn : l.length = n ∧ n ≤ 60) : Calls Try.prog 9 #[.agg (sysA S p), .slice A n c] W (RunQ P (Syst.none, []) 1 W) := by
  obtain ⟨rfl, h60⟩ := hn
  refine (xRun_calls P S p A c l W hC hP hbd hl (by omega)).mono ?_
  rintro e w' ⟨q, v, rfl, hs, hrow, hb⟩
  have hx : xRun S l = (Syst.none, []) := by unfold xRun; rw [hr]; rfl
  rw [hx] at hs hrow ⊢
  rw [hr]
  obtain ⟨B, d, rfl⟩ := row_slice hrow
  exact ⟨q, B, d, rfl, hs, hrow, hb⟩
/-- A run's answer beside a new box, whichever came first. -/
structure JF (w0 : World) (r : Syst × List Int) (W : World) (q : Ad) (B : Option Addr) (d g : Nat) : Prop where
  sys : SysC (hid (fun k => k == g) W) r.1 q
  row : RowI W w0.heap.size (.slice B r.2.length d) r.2
  blk : W.heap[g]? = some (.cells z6 26 (0, 0))
  ge : w0.heap.size ≤ g
  bel : Below w0.heap.size w0 W
theorem JF.callFirst {w0 u : World} {r : Syst × List Int} {q : Ad} {B : Option Addr} {d : Nat} (hs : SysC (hid (fun _ => false) u) r.1 q) (hrow : RowI u w0.heap.size (.slice B r.2.length d) r.2) (hb : Below w0.heap.size w0 u) : JF w0 r (u.alloc (.cells z6 26)) q B d u.heap.size :=
  have hb2 : Below u.heap.size u (u.alloc (.cells z6 26)) := (Below.refl _ _).alloc (Nat.le_refl _) _
  ⟨(hs.up (hid_up _ _)).up (up_new hb2 (fun k hk => by have := beq_iff_eq.1 hk; omega)), below_row hrow hb2, blk_new u _, hb.size, below_then hb hb.size hb2⟩
theorem JF.allocFirst {w0 u : World} {r : Syst × List Int} {q : Ad} {B : Option Addr} {d : Nat} (hs : SysC (hid (fun k => k == w0.heap.size) u) r.1 q) (hrow : RowI u (w0.alloc (.cells z6 26)).heap.size (.slice B r.2.length d) r.2) (hb : Below (w0.alloc (.cells z6 26)).heap.size (w0.alloc (.cells z6 26)) u) : JF w0 r u q B d w0.heap.size :=
  have hb2 : Below w0.heap.size w0 (w0.alloc (.cells z6 26)) := (Below.refl _ _).alloc (Nat.le_refl _) _
  ⟨hs, own_weaken hrow hb2.size, blk_below (blk_new w0 _) hb, Nat.le_refl _, below_then hb2 hb2.size hb⟩
/-- The answer stored into the box. -/
structure JS (w0 : World) (r : Syst × List Int) (W : World) (q : Ad) (B : Option Addr) (d g : Nat) : Prop where
  sys : SysC W r.1 q
  row : CI W B r.2
  le : r.2.length ≤ d
  blk : W.heap[g]? = some (.cells (sysA r.1 q) 26 (0, 0))
  bel : Below w0.heap.size w0 W
theorem JS.below {w0 W W' : World} {r : Syst × List Int} {q : Ad} {B : Option Addr} {d g : Nat} (h : JS w0 r W q B d g) (hb : Below W.heap.size W W') : JS w0 r W' q B d g :=
  ⟨h.sys.below hb, Kd.C_below h.row hb, h.le, blk_below h.blk hb, below_then h.bel h.bel.size hb⟩
theorem JF.store {w0 W : World} {r : Syst × List Int} {q : Ad} {B : Option Addr} {d g : Nat} (h : JF w0 r W q B d g) : JS w0 r ((((((W.setCell ⟨g, 0, none⟩ (.slice q.a0 r.1.th.length q.c0)).setCell ⟨g, 1, none⟩ (.slice q.a1 r.1.at_.length q.c1)).setCell ⟨g, 2, none⟩ (.slice q.a2 r.1.su.length q.c2)).setCell ⟨g, 3, none⟩ (.slice q.a3 r.1.lo.length q.c3)).setCell ⟨g, 4, none⟩ (.slice q.a4 r.1.ce.length q.c4)).setCell ⟨g, 5, none⟩ (.slice q.a5 r.1.ch.length q.c5)) q B d g := by
  have hr := far_sixI (W := W) (g := g) (v0 := (.slice q.a0 r.1.th.length q.c0)) (v1 := (.slice q.a1 r.1.at_.length q.c1)) (v2 := (.slice q.a2 r.1.su.length q.c2)) (v3 := (.slice q.a3 r.1.lo.length q.c3)) (v4 := (.slice q.a4 r.1.ce.length q.c4)) (v5 := (.slice q.a5 r.1.ch.length q.c5)) rfl h.row (ob_ne h.row h.blk (by decide))
  exact ⟨(h.sys.up (hid_six (by simp))).up (hid_up _ _), (rowI_CI hr).1, (rowI_CI hr).2, six_put _ _ _ _ _ _ h.blk, below_six h.bel h.ge⟩
theorem same_calls (s : Syst) (p q : Ad) (W : World) (h1 : SysC W s p) (h2 : SysC W s q) (hb : Bd s) : Calls Try.prog 12 #[.agg #[.slice p.a0 s.th.length p.c0, .slice p.a1 s.at_.length p.c1, .slice p.a2 s.su.length p.c2, .slice p.a3 s.lo.length p.c3, .slice p.a4 s.ce.length p.c4, .slice p.a5 s.ch.length p.c5], .agg #[.slice q.a0 s.th.length q.c0, .slice q.a1 s.at_.length q.c1, .slice q.a2 s.su.length q.c2, .slice q.a3 s.lo.length q.c3, .slice q.a4 s.ce.length q.c4, .slice q.a5 s.ch.length q.c5]] W (fun e w' => e = .returned (.bool true) ∧ Below W.heap.size W w') :=
  downpourref20_Same.calls 1000 p.a0 p.c0 s.th p.a1 p.c1 s.at_ p.a2 p.c2 s.su p.a3 p.c3 s.lo p.a4 p.c4 s.ce p.a5 p.c5 s.ch q.a0 q.c0 s.th q.a1 q.c1 s.at_ q.a2 q.c2 s.su q.a3 q.c3 s.lo q.a4 q.c4 s.ce q.a5 q.c5 s.ch true W h1.r0 h1.h0 h1.r1 h1.h1 h1.r2 h1.h2 h1.r3 h1.h3 h1.r4 h1.h4 h1.r5 h1.h5 h2.r0 h2.h0 h2.r1 h2.h1 h2.r2 h2.h2 h2.r3 h2.h3 h2.r4 h2.h4 h2.r5 h2.h5 (same_refl s hb)
theorem same_calls2 (s s' : Syst) (p q : Ad) (W : World) (h1 : SysC W s p) (h2 : SysC W s' q) (he : s' = s) (hb : Bd s') : Calls Try.prog 12 #[.agg #[.slice p.a0 s.th.length p.c0, .slice p.a1 s.at_.length p.c1, .slice p.a2 s.su.length p.c2, .slice p.a3 s.lo.length p.c3, .slice p.a4 s.ce.length p.c4, .slice p.a5 s.ch.length p.c5], .agg #[.slice q.a0 s'.th.length q.c0, .slice q.a1 s'.at_.length q.c1, .slice q.a2 s'.su.length q.c2, .slice q.a3 s'.lo.length q.c3, .slice q.a4 s'.ce.length q.c4, .slice q.a5 s'.ch.length q.c5]] W (fun e w' => e = .returned (.bool true) ∧ Below W.heap.size W w') := by
  subst he
  exact same_calls s' p q W h1 h2 hb
/-- The box of the system that goes on. -/
structure InNow (g : Nat) (W : World) (s : Syst) : Prop where
  ex : ∃ q, W.heap[g]? = some (.cells #[.slice q.a0 s.th.length q.c0, .slice q.a1 s.at_.length q.c1, .slice q.a2 s.su.length q.c2, .slice q.a3 s.lo.length q.c3, .slice q.a4 s.ce.length q.c4, .slice q.a5 s.ch.length q.c5] 26 (0, 0)) ∧ SysC (hid (fun k => k == g) W) s q
set_option maxRecDepth 100000 in
set_option maxHeartbeats 16000000 in
theorem partsLaw_calls (s : Syst) (p : Ad) (A : Option Addr) (c : Nat) (l : List Int) (k0 : Int) (w : World) (hC : SysC w s p) (hl : CI w A l) (hlc : l.length ≤ c) (hk0 : (Lit.int .i64 k0).wf = true) : Calls Try.prog 7 #[.agg (sysA s p), .slice A l.length c, .int .i64 k0] w (fun e w' => e = .returned (.bool true) ∧ Below w.heap.size w w') := by
  have HB : Aside0 (Below w.heap.size w (w.alloc (.cells (sysA s p) 26))) := ⟨(Below.refl _ _).alloc (Nat.le_refl _) _⟩
  have HG := Aside0.mk (blk_new w (.cells (sysA s p) 26))
  have HS0 : Aside0 (SysC (hid (fun k => k == w.heap.size) (w.alloc (.cells (sysA s p) 26))) s p) := ⟨hC.up (up_new HB.out (fun k hk => by have := beq_iff_eq.1 hk; omega))⟩
  obtain ⟨L, hL⟩ : ∃ L, L = l.take 60 := ⟨_, rfl⟩
  have hLn : L.length = min l.length 60 := by rw [hL, List.length_take]; omega
  have HLC : Aside0 (CI w A L) := ⟨by
    have h2 := Kd.C_take hl (m := min l.length 60) (by omega)
    rw [take_min, ← hL] at h2
    exact h2⟩
  have HL60 : Aside0 (L.length ≤ 60 ∧ L.length ≤ c) := ⟨by omega⟩
  have qm : (if 60 < (l.length : Int) then (60 : Int) else (l.length : Int)) = (L.length : Int) := by split <;> omega
  have qc : ∀ W : World, (Instr.slice 23 (.slice A l.length c) none (some (.int .i64 (L.length : Int))) none).run Try.prog W = .ok (.slice A L.length c) W := fun W => by
    obtain ⟨i, hi, hz0, -⟩ := info_parts info3
    have h3 := cut_to (P := Try.prog) 23 3 .i64 Try.underlying23 hi A l.length c (L.length : Int) (by omega) (by omega) hlc W
    rw [Int.toNat_natCast] at h3
    exact h3
  have HK0 := Aside0.mk hk0
  clear hC hl hL hLn hk0
  unfold sysA at *
  obtain ⟨q0, q1, q2, q3, q4, q5⟩ := six_cells HG.out
  go_enter Try.func7, Try.ntmps7
  go_wp2
  generalize w.alloc (.cells #[.slice p.a0 s.th.length p.c0, .slice p.a1 s.at_.length p.c1, .slice p.a2 s.su.length p.c2, .slice p.a3 s.lo.length p.c3, .slice p.a4 s.ce.length p.c4, .slice p.a5 s.ch.length p.c5] 26) = w1 at *
  refine start_ (n := 9) (S := fun w' => w'.cell? ⟨w.heap.size, 0, none⟩ = some (.slice p.a0 s.th.length p.c0) ∧ w'.cell? ⟨w.heap.size, 1, none⟩ = some (.slice p.a1 s.at_.length p.c1) ∧ w'.cell? ⟨w.heap.size, 2, none⟩ = some (.slice p.a2 s.su.length p.c2) ∧ w'.cell? ⟨w.heap.size, 3, none⟩ = some (.slice p.a3 s.lo.length p.c3) ∧ w'.cell? ⟨w.heap.size, 4, none⟩ = some (.slice p.a4 s.ce.length p.c4) ∧ w'.cell? ⟨w.heap.size, 5, none⟩ = some (.slice p.a5 s.ch.length p.c5)) (ds := [7]) #[false, false, false, false, false, false, false, false, false] (by kernel_rfl) rfl rfl ⟨q0, q1, q2, q3, q4, q5⟩ (fun hHeld => ?_)
  replace HG := Aside0.mk (blk_drew HG.out)
  replace HS0 := Aside0.mk (HS0.out.up (up_hid (below_drew (Below.refl _ _)) (fun _ _ h => h)))
  replace HB := Aside0.mk (below_drew HB.out)
  clear q0 q1 q2 q3 q4 q5
  generalize w1.drew = w2 at *
  refine pure_ (i := 2) (N := some 25) (v := ?_) (a' := ?_) #[false, false, true, false, false, false, false, false, false] rfl rfl (by kernel_rfl) (fun _ _ _ h => h) (Or.inl ⟨by rfl, ?_⟩) ?_ ?_
  rotate_left
  · intro w'
    go_simp
    with_reducible rfl
  rotate_left
  · simp only [Act.put, List.setIfInBounds_toArray, List.set_cons_zero, List.set_cons_succ, i64_w, i32_w]
    rfl
  refine pure_ (i := 3) (N := some 26) (v := ?_) (a' := ?_) #[false, false, true, true, false, false, false, false, false] rfl rfl (by kernel_rfl) (fun _ _ _ h => h) (Or.inl ⟨by rfl, ?_⟩) ?_ ?_
  rotate_left
  · intro w'
    go_simp
    with_reducible rfl
  rotate_left
  · simp only [Act.put, List.setIfInBounds_toArray, List.set_cons_zero, List.set_cons_succ, i64_w, i32_w]
    rfl
  refine pure_ (i := 4) (N := some 27) (v := ?_) (a' := ?_) #[false, false, true, true, true, false, false, false, false] rfl rfl (by kernel_rfl) (fun _ _ _ h => h) (Or.inl ⟨by rfl, ?_⟩) ?_ ?_
  rotate_left
  · intro w'
    go_simp
    with_reducible rfl
  rotate_left
  · simp only [Act.put, List.setIfInBounds_toArray, List.set_cons_zero, List.set_cons_succ, i64_w, i32_w]
    rfl
  refine pure_ (i := 5) (N := some 28) (v := ?_) (a' := ?_) #[false, false, true, true, true, true, false, false, false] rfl rfl (by kernel_rfl) (fun _ _ _ h => h) (Or.inl ⟨by rfl, ?_⟩) ?_ ?_
  rotate_left
  · intro w'
    go_simp
    with_reducible rfl
  rotate_left
  · simp only [Act.put, List.setIfInBounds_toArray, List.set_cons_zero, List.set_cons_succ, i64_w, i32_w]
    rfl
  refine pure_ (i := 6) (N := some 29) (v := ?_) (a' := ?_) #[false, false, true, true, true, true, true, false, false] rfl rfl (by kernel_rfl) (fun _ _ _ h => h) (Or.inl ⟨by rfl, ?_⟩) ?_ ?_
  rotate_left
  · intro w'
    go_simp
    with_reducible rfl
  rotate_left
  · simp only [Act.put, List.setIfInBounds_toArray, List.set_cons_zero, List.set_cons_succ, i64_w, i32_w]
    rfl
  refine take_ (i := 0) (N := some 23) (v := ?_) (a' := ?_) #[true, false, true, true, true, true, true, false, false] rfl rfl (by kernel_rfl) (fun _ _ _ h => h) (Or.inl ⟨by rfl, ?_⟩) hHeld ?_ ?_
  rotate_left
  · rintro w' ⟨s0, s1, s2, s3, s4, s5⟩
    go_simp
    with_reducible rfl
  rotate_left
  · simp only [Act.put, List.setIfInBounds_toArray, List.set_cons_zero, List.set_cons_succ, i64_w, i32_w]
    rfl
  refine one_ (i := 1) (N := some 24) #[true, true, true, true, true, true, true, false, false] rfl rfl (by kernel_rfl) (by decide) (fun K hK => ?_)
  refine goes_ Try.func8 (by kernel_rfl) rfl #[.agg #[.slice p.a0 s.th.length p.c0, .slice p.a1 s.at_.length p.c1, .slice p.a2 s.su.length p.c2, .slice p.a3 s.lo.length p.c3, .slice p.a4 s.ce.length p.c4, .slice p.a5 s.ch.length p.c5]] (by rfl) rfl rfl (by (try simp only [List.map_toArray, List.map_cons, List.map_nil]); first | done | rfl) ?_
  refine (few_calls (fun k => k == w.heap.size) s p _ HS0.out (fun k hk => by have := beq_iff_eq.1 hk; subst this; exact blk_lt HG.out)).mono ?_
  rintro e w3 ⟨p1, rfl, hs, hb⟩
  refine ⟨_, rfl, ?_⟩
  refine hK.out _ _ ⟨pw_cell_below hb hHeld.1, pw_cell_below hb hHeld.2.1, pw_cell_below hb hHeld.2.2.1, pw_cell_below hb hHeld.2.2.2.1, pw_cell_below hb hHeld.2.2.2.2.1, pw_cell_below hb hHeld.2.2.2.2.2⟩ (fun hHeld => ?_)
  replace HG := Aside0.mk (blk_below HG.out hb)
  replace HB := Aside0.mk (HB.out.trans (hb.mono HB.out.size))
  have HS1 := Aside0.mk hs
  clear hs hb HS0
  obtain ⟨S, hS⟩ : ∃ S, fewS s = S := ⟨_, rfl⟩
  have HSD : Aside0 (Bd S) := ⟨by rw [← hS]; exact few_bd s⟩
  rw [hS] at HS1 ⊢
  clear hS
  unfold sysA
  clear hK K
  refine norm_ (a' := ?_) ?_ ?_
  rotate_left
  · show Act.put _ (some 24) _ = _
    simp only [Act.put, List.setIfInBounds_toArray, List.set_cons_zero, List.set_cons_succ, i64_w, i32_w]
    rfl
  refine last_ (i := 7) (N := none) #[true, true, true, true, true, true, true, true, false] rfl rfl (by kernel_rfl) (by decide) (fun K hK => ?_)
  clear hHeld
  obtain ⟨q0, q1, q2, q3, q4, q5⟩ := six_cells HG.out
  obtain ⟨x0, x1, x2, x3, x4, x5⟩ := six_frozen HG.out
  refine skip_ (w1 := ?_) (by rfl) rfl ?_ ?_
  rotate_left
  · go_simp
    rfl
  refine hK.out _ _ ?_
  clear hK K
  clear q0 q1 q2 q3 q4 q5 x0 x1 x2 x3 x4 x5
  replace HG := Aside0.mk (six_put (.slice p1.a0 S.th.length p1.c0) (.slice p1.a1 S.at_.length p1.c1) (.slice p1.a2 S.su.length p1.c2) (.slice p1.a3 S.lo.length p1.c3) (.slice p1.a4 S.ce.length p1.c4) (.slice p1.a5 S.ch.length p1.c5) HG.out)
  replace HS1 := Aside0.mk ((HS1.out.up (hid_six (g := w.heap.size) (by simp) (v0 := (.slice p1.a0 S.th.length p1.c0)) (v1 := (.slice p1.a1 S.at_.length p1.c1)) (v2 := (.slice p1.a2 S.su.length p1.c2)) (v3 := (.slice p1.a3 S.lo.length p1.c3)) (v4 := (.slice p1.a4 S.ce.length p1.c4)) (v5 := (.slice p1.a5 S.ch.length p1.c5)))).up (hid_up _ _))
  replace HB := Aside0.mk (below_six (g := w.heap.size) HB.out (Nat.le_refl _) (v0 := (.slice p1.a0 S.th.length p1.c0)) (v1 := (.slice p1.a1 S.at_.length p1.c1)) (v2 := (.slice p1.a2 S.su.length p1.c2)) (v3 := (.slice p1.a3 S.lo.length p1.c3)) (v4 := (.slice p1.a4 S.ce.length p1.c4)) (v5 := (.slice p1.a5 S.ch.length p1.c5)))
  generalize ((((((w3.setCell ⟨w.heap.size, 0, none⟩ (.slice p1.a0 S.th.length p1.c0)).setCell ⟨w.heap.size, 1, none⟩ (.slice p1.a1 S.at_.length p1.c1)).setCell ⟨w.heap.size, 2, none⟩ (.slice p1.a2 S.su.length p1.c2)).setCell ⟨w.heap.size, 3, none⟩ (.slice p1.a3 S.lo.length p1.c3)).setCell ⟨w.heap.size, 4, none⟩ (.slice p1.a4 S.ce.length p1.c4)).setCell ⟨w.heap.size, 5, none⟩ (.slice p1.a5 S.ch.length p1.c5)) = w4 at *
  refine pure_ (i := 8) (N := some 1) (v := ?_) (a' := ?_) #[true, true, true, true, true, true, true, true, true] rfl rfl (by kernel_rfl) (fun _ _ _ h => h) (Or.inl ⟨by rfl, ?_⟩) ?_ ?_
  rotate_left
  · intro w'
    go_simp
    with_reducible rfl
  rotate_left
  · simp only [Act.put, List.setIfInBounds_toArray, List.set_cons_zero, List.set_cons_succ, i64_w, i32_w]
    rfl
  refine done_ (by kernel_rfl) ?_
  have HL4 := Aside0.mk (Kd.C_below HLC.out HB.out)
  obtain ⟨q0, q1, q2, q3, q4, q5⟩ := six_cells HG.out
  clear qm qc HLC
  cases hr : rightB S with
  | false =>
    have HRUN : Aside0 (Calls Try.prog 9 #[.agg #[.slice p1.a0 S.th.length p1.c0, .slice p1.a1 S.at_.length p1.c1, .slice p1.a2 S.su.length p1.c2, .slice p1.a3 S.lo.length p1.c3, .slice p1.a4 S.ce.length p1.c4, .slice p1.a5 S.ch.length p1.c5], .slice A L.length c] w4 (fun e w' => ∃ a0 n0 c0 a1 n1 c1 a2 n2 c2 a3 n3 c3 a4 n4 c4 a5 n5 c5 B d, e = .returned (.tuple #[.agg #[.slice a0 n0 c0, .slice a1 n1 c1, .slice a2 n2 c2, .slice a3 n3 c3, .slice a4 n4 c4, .slice a5 n5 c5], .slice B 0 d, .int .i64 1]) ∧ Below w4.heap.size w4 w')) := ⟨(xRun_calls (fun _ => false) S p1 A c L w4 (HS1.out.up (hid_none _)) (fun k hk => by cases hk) HSD.out HL4.out (by have := HL60.out; omega)).mono (by
      rintro e w' ⟨p2, v, rfl, -, hrow, hb⟩
      have e1 : xRun S L = (Syst.none, []) := by unfold xRun; rw [hr]; rfl
      rw [e1] at hrow ⊢
      rw [hr]
      obtain ⟨B, d, rfl⟩ := row_slice hrow
      obtain ⟨a0, c0, a1, c1, a2, c2, a3, c3, a4, c4, a5, c5⟩ := p2
      exact ⟨_, _, _, _, _, _, _, _, _, _, _, _, _, _, _, _, _, _, _, _, rfl, hb⟩)⟩
    clear hr
    as_aux_lemma =>
    go_wp2_with (first
      | (go_at_call 9; refine HRUN.out.mono ?_; rintro e w5 ⟨a0, n0, c0, a1, n1, c1, a2, n2, c2, a3, n3, c3, a4, n4, c4, a5, n5, c5, B, d, rfl, hb⟩; have HB5 := Aside0.mk (HB.out.trans (hb.mono HB.out.size)); clear hb)
      | (go_at_call 11; refine (alive_calls _).mono ?_; rintro e w6 ⟨rfl, hb⟩; have HB6 := Aside0.mk hb; clear hb))
    go_ret
    have hb6 := below_then (HB5.out.alloc HB5.out.size _) (HB5.out.alloc HB5.out.size _).size HB6.out
    exact ⟨rfl, hb6⟩
  | true =>
    have HRR := Aside0.mk hr
    have HSH := Aside0.mk (right_shp hr)
    obtain ⟨kk, hkk, e4⟩ : ∃ kk : Nat, kk ≤ L.length ∧ Int.tmod (Int.tmod k0 ((L.length : Int) + 1) + L.length + 1) ((L.length : Int) + 1) = (kk : Int) := by
      have h1 := Int.tmod_lt_of_pos k0 (b := (L.length : Int) + 1) (by omega)
      have h2 := Int.lt_tmod_of_pos k0 (b := (L.length : Int) + 1) (by omega)
      have h3 := Int.tmod_lt_of_pos (Int.tmod k0 ((L.length : Int) + 1) + L.length + 1) (b := (L.length : Int) + 1) (by omega)
      have h4 := Int.tmod_nonneg (a := Int.tmod k0 ((L.length : Int) + 1) + L.length + 1) ((L.length : Int) + 1) (by omega)
      exact ⟨(Int.tmod (Int.tmod k0 ((L.length : Int) + 1) + L.length + 1) ((L.length : Int) + 1)).toNat, by omega, by omega⟩
    have hl60 := HL60.out
    have e1 : wrap64 ((L.length : Int) + 1) = (L.length : Int) + 1 := by unfold wrap64; omega
    have e2 : wrap64 (Int.tmod k0 ((L.length : Int) + 1) + L.length) = Int.tmod k0 ((L.length : Int) + 1) + L.length := by
      have h1 := Int.tmod_lt_of_pos k0 (b := (L.length : Int) + 1) (by omega)
      have h2 := Int.lt_tmod_of_pos k0 (b := (L.length : Int) + 1) (by omega)
      unfold wrap64; omega
    have e3 : wrap64 (Int.tmod k0 ((L.length : Int) + 1) + L.length + 1) = Int.tmod k0 ((L.length : Int) + 1) + L.length + 1 := by
      have h1 := Int.tmod_lt_of_pos k0 (b := (L.length : Int) + 1) (by omega)
      have h2 := Int.lt_tmod_of_pos k0 (b := (L.length : Int) + 1) (by omega)
      unfold wrap64; omega
    have dk : (((L.length : Int) + 1) == 0) = false := beq_eq_false_iff_ne.2 (by omega)
    have hz : ¬ ((L.length : Int) + 1 = 0) := by omega
    have hx : xRun S L = runS S L := by unfold xRun; rw [if_pos hr]
    have HRUN : Aside0 (Calls Try.prog 9 #[.agg #[.slice p1.a0 S.th.length p1.c0, .slice p1.a1 S.at_.length p1.c1, .slice p1.a2 S.su.length p1.c2, .slice p1.a3 S.lo.length p1.c3, .slice p1.a4 S.ce.length p1.c4, .slice p1.a5 S.ch.length p1.c5], .slice A L.length c] w4 (fun e w' => ∃ p2 B d, e = .returned (.tuple #[.agg (sysA (runS S L).1 p2), .slice B (runS S L).2.length d, .int .i64 0]) ∧ SysC w' (runS S L).1 p2 ∧ RowI w' w4.heap.size (.slice B (runS S L).2.length d) (runS S L).2 ∧ Below w4.heap.size w4 w')) := ⟨(xRun_calls (fun _ => false) S p1 A c L w4 (HS1.out.up (hid_none _)) (fun k hk => by cases hk) HSD.out HL4.out (by omega)).mono (by
      rintro e w' ⟨p2, v, rfl, hs, hrow, hb⟩
      rw [hx] at hs hrow ⊢
      rw [hr]
      obtain ⟨B, d, rfl⟩ := row_slice hrow
      exact ⟨p2, B, d, rfl, hs.up (hid_up _ _), hrow, hb⟩)⟩
    have HW0 := Aside0.mk (went_run S L)
    have HRS := Aside0.mk (runTo_shp HSH.out L L.length).1
    have HRL := Aside0.mk (runTo_len S L L.length)
    rw [runTo_all] at HRS HRL
    have HAP := Aside0.mk (runS_append S (L.take kk) (L.drop kk))
    rw [List.take_append_drop] at HAP
    have HGS := Aside0.mk (fun j => goS_shp (l := L) HSH.out j)
    have HKK := Aside0.mk hkk
    clear hr hx
    generalize runS S L = r at *
    obtain ⟨M, went⟩ := r
    dsimp only at HRUN HRS HRL HGS HW0
    unfold sysA at HRUN
    go_wp2_with (go_at_call 9; refine HRUN.out.mono ?_; rintro e w5 ⟨p2, B, d, rfl, hs, hrow, hb⟩; have HM := Aside0.mk hs; have HWR := Aside0.mk hrow; have HB5 := Aside0.mk hb; clear hb hs hrow)
    have HA := Aside0.mk (blk_new w5 (.cells #[.slice p2.a0 M.th.length p2.c0, .slice p2.a1 M.at_.length p2.c1, .slice p2.a2 M.su.length p2.c2, .slice p2.a3 M.lo.length p2.c3, .slice p2.a4 M.ce.length p2.c4, .slice p2.a5 M.ch.length p2.c5] 26))
    have hb6 : Below w5.heap.size w5 (w5.alloc (.cells #[.slice p2.a0 M.th.length p2.c0, .slice p2.a1 M.at_.length p2.c1, .slice p2.a2 M.su.length p2.c2, .slice p2.a3 M.lo.length p2.c3, .slice p2.a4 M.ce.length p2.c4, .slice p2.a5 M.ch.length p2.c5] 26)) := (Below.refl _ _).alloc (Nat.le_refl _) _
    replace HM := Aside0.mk (HM.out.below hb6)
    have HWD : Aside0 (went.length ≤ d) := ⟨(rowI_CI HWR.out).2⟩
    replace HWR := Aside0.mk (Kd.C_below (rowI_CI HWR.out).1 hb6)
    have HB6 := Aside0.mk (below_then HB5.out HB5.out.size hb6)
    clear hb6 HB5 HRUN
    generalize w5.alloc (.cells #[.slice p2.a0 M.th.length p2.c0, .slice p2.a1 M.at_.length p2.c1, .slice p2.a2 M.su.length p2.c2, .slice p2.a3 M.lo.length p2.c3, .slice p2.a4 M.ce.length p2.c4, .slice p2.a5 M.ch.length p2.c5] 26) = w6 at *
    generalize w5.heap.size = gA at *
    have HLT : Aside0 (CI w4 A (L.take kk)) := ⟨Kd.C_take HL4.out HKK.out⟩
    have HLK : Aside0 ((L.take kk).length = kk ∧ kk ≤ 60) := ⟨by rw [List.length_take]; omega⟩
    obtain ⟨r6, hr6⟩ : ∃ r6, runS S (L.take kk) = r6 := ⟨_, rfl⟩
    have HR6 := Aside0.mk hr6
    clear hr6
    replace HG := Aside0.mk (blk_below HG.out HB6.out)
    replace HS1 := Aside0.mk (HS1.out.below HB6.out)
    have HL40 := HL4
    replace HL4 := Aside0.mk (Kd.C_below HL4.out HB6.out)
    have qs : ∀ W : World, (Instr.slice 23 (.slice A L.length c) none (some (.int .i64 (kk : Int))) none).run Try.prog W = .ok (.slice A kk c) W := fun W => by
      obtain ⟨i, hi, hz0, -⟩ := info_parts info3
      have h3 := cut_to (P := Try.prog) 23 3 .i64 Try.underlying23 hi A L.length c (kk : Int) (by omega) (by omega) hl60.2 W
      rw [Int.toNat_natCast] at h3
      exact h3
    obtain ⟨q0, q1, q2, q3, q4, q5⟩ := six_cells HG.out
    refine start_ (n := 13) (S := fun w' => w'.cell? ⟨w.heap.size, 0, none⟩ = some (.slice p1.a0 S.th.length p1.c0) ∧ w'.cell? ⟨w.heap.size, 1, none⟩ = some (.slice p1.a1 S.at_.length p1.c1) ∧ w'.cell? ⟨w.heap.size, 2, none⟩ = some (.slice p1.a2 S.su.length p1.c2) ∧ w'.cell? ⟨w.heap.size, 3, none⟩ = some (.slice p1.a3 S.lo.length p1.c3) ∧ w'.cell? ⟨w.heap.size, 4, none⟩ = some (.slice p1.a4 S.ce.length p1.c4) ∧ w'.cell? ⟨w.heap.size, 5, none⟩ = some (.slice p1.a5 S.ch.length p1.c5)) (ds := [10]) #[false, false, false, false, false, false, false, false, false, false, false, false, false] (by kernel_rfl) rfl rfl ⟨q0, q1, q2, q3, q4, q5⟩ (fun hHeld => ?_)
    replace HG := Aside0.mk (blk_drew HG.out)
    replace HA := Aside0.mk (blk_drew HA.out)
    replace HM := Aside0.mk (HM.out.below (below_drew (Below.refl _ _)))
    replace HWR := Aside0.mk (Kd.C_below HWR.out (below_drew (Below.refl _ _)))
    replace HL4 := Aside0.mk (Kd.C_below HL4.out (below_drew (Below.refl _ _)))
    replace HS1 := Aside0.mk (HS1.out.below (below_drew (Below.refl _ _)))
    replace HB6 := Aside0.mk (below_drew HB6.out)
    clear q0 q1 q2 q3 q4 q5
    generalize w6.drew = v6 at *
    have HRUN6 : Aside0 (∀ (P : Nat → Bool) (W : World), Below v6.heap.size v6 W → (∀ k, P k = true → v6.heap.size ≤ k ∧ k < W.heap.size) → Calls Try.prog 9 #[.agg #[.slice p1.a0 S.th.length p1.c0, .slice p1.a1 S.at_.length p1.c1, .slice p1.a2 S.su.length p1.c2, .slice p1.a3 S.lo.length p1.c3, .slice p1.a4 S.ce.length p1.c4, .slice p1.a5 S.ch.length p1.c5], .slice A kk c] W (RunQ P r6 0 W)) := ⟨fun P W hb hP => run_right HRR.out HSD.out (HS1.out.up (up_new hb (fun k hk => (hP k hk).1))) (fun k hk => (hP k hk).2) (Kd.C_below HLT.out (below_then HB6.out HB6.out.size hb)) HLK.out HR6.out⟩
    refine pure_ (i := 1) (N := some 60) (v := ?_) (a' := ?_) #[false, true, false, false, false, false, false, false, false, false, false, false, false] rfl rfl (by kernel_rfl) (fun _ _ _ h => h) (Or.inl ⟨by rfl, ?_⟩) ?_ ?_
    rotate_left
    · intro w'
      go_simp
      with_reducible rfl
    rotate_left
    · simp only [Act.put, List.setIfInBounds_toArray, List.set_cons_zero, List.set_cons_succ, i64_w, i32_w]
      rfl
    refine pure_ (i := 2) (N := some 61) (v := ?_) (a' := ?_) #[false, true, true, false, false, false, false, false, false, false, false, false, false] rfl rfl (by kernel_rfl) (fun _ _ _ h => h) (Or.inl ⟨by rfl, ?_⟩) ?_ ?_
    rotate_left
    · intro w'
      go_simp
      with_reducible rfl
    rotate_left
    · simp only [Act.put, List.setIfInBounds_toArray, List.set_cons_zero, List.set_cons_succ, i64_w, i32_w]
      rfl
    refine pure_ (i := 3) (N := some 62) (v := ?_) (a' := ?_) #[false, true, true, true, false, false, false, false, false, false, false, false, false] rfl rfl (by kernel_rfl) (fun _ _ _ h => h) (Or.inl ⟨by rfl, ?_⟩) ?_ ?_
    rotate_left
    · intro w'
      go_simp
      with_reducible rfl
    rotate_left
    · simp only [Act.put, List.setIfInBounds_toArray, List.set_cons_zero, List.set_cons_succ, i64_w, i32_w]
      rfl
    refine take_ (i := 0) (N := some 59) (v := ?_) (a' := ?_) #[true, true, true, true, false, false, false, false, false, false, false, false, false] rfl rfl (by kernel_rfl) (fun _ _ _ h => h) (Or.inl ⟨by rfl, ?_⟩) hHeld ?_ ?_
    rotate_left
    · rintro w' ⟨s0, s1, s2, s3, s4, s5⟩
      go_simp
      with_reducible rfl
    rotate_left
    · simp only [Act.put, List.setIfInBounds_toArray, List.set_cons_zero, List.set_cons_succ, i64_w, i32_w]
      rfl
    refine join_ (σ := Ad × Option Addr × Nat × Nat) 3 #[true, true, true, true, true, true, true, true, true, true, false, false, false] (fun q : Ad × Option Addr × Nat × Nat => [(63, (.tuple #[.agg (sysA r6.1 q.1), .slice q.2.1 r6.2.length q.2.2.1, .int .i64 0])), (10, .pointer (some ⟨q.2.2.2, 0, none⟩)), (58, (.tuple #[.agg (sysA r6.1 q.1), .slice q.2.1 r6.2.length q.2.2.1, .int .i64 0])), (64, .agg (sysA r6.1 q.1)), (65, .slice q.2.1 r6.2.length q.2.2.1), (66, .int .i64 0)]) (fun q w' => JF v6 r6 w' q.1 q.2.1 q.2.2.1 q.2.2.2) ?_ ?_
    rotate_left
    · intro hc
      refine two_ (i := 4) (j := 9) (Ni := some 63) (Nj := some 10) #[true, true, true, true, true, false, false, false, false, false, false, false, false] #[true, true, true, true, false, false, false, false, false, true, false, false, false] rfl rfl rfl rfl (by kernel_rfl) (by decide) (by decide) (fun K hK => ?_) (fun K hK => ?_)
      · skip
        refine goes_ Try.func9 (by kernel_rfl) rfl #[.agg #[.slice p1.a0 S.th.length p1.c0, .slice p1.a1 S.at_.length p1.c1, .slice p1.a2 S.su.length p1.c2, .slice p1.a3 S.lo.length p1.c3, .slice p1.a4 S.ce.length p1.c4, .slice p1.a5 S.ch.length p1.c5], .slice A kk c] (by rfl) rfl rfl (by (try simp only [List.map_toArray, List.map_cons, List.map_nil]); first | done | rfl) ?_
        refine (HRUN6.out (fun _ => false) v6 (Below.refl _ _) (fun k hk => by cases hk)).mono ?_
        rintro e u ⟨q, B, d, rfl, hs, hrow, hb⟩
        refine ⟨_, rfl, ?_⟩
        refine hK.out _ _ ⟨pw_cell_below hb hHeld.1, pw_cell_below hb hHeld.2.1, pw_cell_below hb hHeld.2.2.1, pw_cell_below hb hHeld.2.2.2.1, pw_cell_below hb hHeld.2.2.2.2.1, pw_cell_below hb hHeld.2.2.2.2.2⟩ (fun hHeld => ?_)
        clear hK K
        refine norm_ (a' := ?_) ?_ ?_
        rotate_left
        · show Act.put _ (some 63) _ = _
          simp only [Act.put, List.setIfInBounds_toArray, List.set_cons_zero, List.set_cons_succ, i64_w, i32_w]
          rfl
        refine pure_ (i := 5) (N := some 58) (v := ?_) (a' := ?_) #[true, true, true, true, true, true, false, false, false, false, false, false, false] rfl rfl (by kernel_rfl) (fun _ _ _ h => h) (Or.inl ⟨by rfl, ?_⟩) ?_ ?_
        rotate_left
        · intro w'
          go_simp
          with_reducible rfl
        rotate_left
        · simp only [Act.put, List.setIfInBounds_toArray, List.set_cons_zero, List.set_cons_succ, i64_w, i32_w]
          rfl
        refine pure_ (i := 6) (N := some 64) (v := ?_) (a' := ?_) #[true, true, true, true, true, true, true, false, false, false, false, false, false] rfl rfl (by kernel_rfl) (fun _ _ _ h => h) (Or.inl ⟨by rfl, ?_⟩) ?_ ?_
        rotate_left
        · intro w'
          go_simp
          with_reducible rfl
        rotate_left
        · simp only [Act.put, List.setIfInBounds_toArray, List.set_cons_zero, List.set_cons_succ, i64_w, i32_w]
          rfl
        refine pure_ (i := 7) (N := some 65) (v := ?_) (a' := ?_) #[true, true, true, true, true, true, true, true, false, false, false, false, false] rfl rfl (by kernel_rfl) (fun _ _ _ h => h) (Or.inl ⟨by rfl, ?_⟩) ?_ ?_
        rotate_left
        · intro w'
          go_simp
          with_reducible rfl
        rotate_left
        · simp only [Act.put, List.setIfInBounds_toArray, List.set_cons_zero, List.set_cons_succ, i64_w, i32_w]
          rfl
        refine pure_ (i := 8) (N := some 66) (v := ?_) (a' := ?_) #[true, true, true, true, true, true, true, true, true, false, false, false, false] rfl rfl (by kernel_rfl) (fun _ _ _ h => h) (Or.inl ⟨by rfl, ?_⟩) ?_ ?_
        rotate_left
        · intro w'
          go_simp
          with_reducible rfl
        rotate_left
        · simp only [Act.put, List.setIfInBounds_toArray, List.set_cons_zero, List.set_cons_succ, i64_w, i32_w]
          rfl
        refine one_ (i := 9) (N := some 10) #[true, true, true, true, true, true, true, true, true, true, false, false, false] rfl rfl (by kernel_rfl) (by decide) (fun K hK => ?_)
        refine value_ (v := .pointer (some ⟨u.heap.size, 0, none⟩)) (w1 := u.alloc (.cells z6 26)) (by rfl) rfl (by go_simp) ?_
        have hF := JF.callFirst hs hrow hb
        replace hb : Below u.heap.size u (u.alloc (.cells z6 26)) := (Below.refl _ _).alloc (Nat.le_refl _) _
        refine hK.out _ _ ⟨pw_cell_below hb hHeld.1, pw_cell_below hb hHeld.2.1, pw_cell_below hb hHeld.2.2.1, pw_cell_below hb hHeld.2.2.2.1, pw_cell_below hb hHeld.2.2.2.2.1, pw_cell_below hb hHeld.2.2.2.2.2⟩ (fun hHeld => norm_ ?_ (hc (q, B, d, u.heap.size) _ hF))
        simp only [putAll, Act.put, List.setIfInBounds_toArray, List.set_cons_zero, List.set_cons_succ]
      · skip
        refine value_ (v := .pointer (some ⟨v6.heap.size, 0, none⟩)) (w1 := v6.alloc (.cells z6 26)) (by rfl) rfl (by go_simp) ?_
        have hb : Below v6.heap.size v6 (v6.alloc (.cells z6 26)) := (Below.refl _ _).alloc (Nat.le_refl _) _
        refine hK.out _ _ ⟨pw_cell_below hb hHeld.1, pw_cell_below hb hHeld.2.1, pw_cell_below hb hHeld.2.2.1, pw_cell_below hb hHeld.2.2.2.1, pw_cell_below hb hHeld.2.2.2.2.1, pw_cell_below hb hHeld.2.2.2.2.2⟩ (fun hHeld => ?_)
        clear hK K
        refine one_ (i := 4) (N := some 63) #[true, true, true, true, true, false, false, false, false, true, false, false, false] rfl rfl (by kernel_rfl) (by decide) (fun K hK => ?_)
        refine goes_ Try.func9 (by kernel_rfl) rfl #[.agg #[.slice p1.a0 S.th.length p1.c0, .slice p1.a1 S.at_.length p1.c1, .slice p1.a2 S.su.length p1.c2, .slice p1.a3 S.lo.length p1.c3, .slice p1.a4 S.ce.length p1.c4, .slice p1.a5 S.ch.length p1.c5], .slice A kk c] (by rfl) rfl rfl (by (try simp only [List.map_toArray, List.map_cons, List.map_nil]); first | done | rfl) ?_
        refine (HRUN6.out (fun k => k == v6.heap.size) _ hb (fun k hk => by have h1 := beq_iff_eq.1 hk; subst h1; rw [alloc_size]; omega)).mono ?_
        rintro e u ⟨q, B, d, rfl, hs, hrow, hb2⟩
        refine ⟨_, rfl, ?_⟩
        have hF := JF.allocFirst hs hrow hb2
        replace hb := hb2
        refine hK.out _ _ ⟨pw_cell_below hb hHeld.1, pw_cell_below hb hHeld.2.1, pw_cell_below hb hHeld.2.2.1, pw_cell_below hb hHeld.2.2.2.1, pw_cell_below hb hHeld.2.2.2.2.1, pw_cell_below hb hHeld.2.2.2.2.2⟩ (fun hHeld => ?_)
        clear hK K
        refine norm_ (a' := ?_) ?_ ?_
        rotate_left
        · show Act.put (Act.put _ (some 10) _) (some 63) _ = _
          simp only [Act.put, List.setIfInBounds_toArray, List.set_cons_zero, List.set_cons_succ, i64_w, i32_w]
          rfl
        refine pure_ (i := 5) (N := some 58) (v := ?_) (a' := ?_) #[true, true, true, true, true, true, false, false, false, true, false, false, false] rfl rfl (by kernel_rfl) (fun _ _ _ h => h) (Or.inl ⟨by rfl, ?_⟩) ?_ ?_
        rotate_left
        · intro w'
          go_simp
          with_reducible rfl
        rotate_left
        · simp only [Act.put, List.setIfInBounds_toArray, List.set_cons_zero, List.set_cons_succ, i64_w, i32_w]
          rfl
        refine pure_ (i := 6) (N := some 64) (v := ?_) (a' := ?_) #[true, true, true, true, true, true, true, false, false, true, false, false, false] rfl rfl (by kernel_rfl) (fun _ _ _ h => h) (Or.inl ⟨by rfl, ?_⟩) ?_ ?_
        rotate_left
        · intro w'
          go_simp
          with_reducible rfl
        rotate_left
        · simp only [Act.put, List.setIfInBounds_toArray, List.set_cons_zero, List.set_cons_succ, i64_w, i32_w]
          rfl
        refine pure_ (i := 7) (N := some 65) (v := ?_) (a' := ?_) #[true, true, true, true, true, true, true, true, false, true, false, false, false] rfl rfl (by kernel_rfl) (fun _ _ _ h => h) (Or.inl ⟨by rfl, ?_⟩) ?_ ?_
        rotate_left
        · intro w'
          go_simp
          with_reducible rfl
        rotate_left
        · simp only [Act.put, List.setIfInBounds_toArray, List.set_cons_zero, List.set_cons_succ, i64_w, i32_w]
          rfl
        refine pure_ (i := 8) (N := some 66) (v := ?_) (a' := ?_) #[true, true, true, true, true, true, true, true, true, true, false, false, false] rfl rfl (by kernel_rfl) (fun _ _ _ h => h) (Or.inl ⟨by rfl, ?_⟩) ?_ ?_
        rotate_left
        · intro w'
          go_simp
          with_reducible rfl
        rotate_left
        · simp only [Act.put, List.setIfInBounds_toArray, List.set_cons_zero, List.set_cons_succ, i64_w, i32_w]
          rfl
        refine norm_ ?_ (hc (q, B, d, v6.heap.size) _ hF)
        simp only [putAll, Act.put, List.setIfInBounds_toArray, List.set_cons_zero, List.set_cons_succ]
    rintro ⟨q6, B6, d6, g6⟩ u6 hF
    refine norm_ (a' := ?_) ?_ ?_
    rotate_left
    · simp only [putAll, Act.put, List.setIfInBounds_toArray, List.set_cons_zero, List.set_cons_succ, i64_w, i32_w]
      rfl
    have HF := Aside0.mk hF
    clear hF hHeld
    dsimp only at HF
    unfold sysA
    refine last_ (i := 10) (N := none) #[true, true, true, true, true, true, true, true, true, true, true, false, false] rfl rfl (by kernel_rfl) (by decide) (fun K hK => ?_)
    obtain ⟨q0, q1, q2, q3, q4, q5⟩ := six_cells HF.out.blk
    obtain ⟨x0, x1, x2, x3, x4, x5⟩ := six_frozen HF.out.blk
    refine skip_ (w1 := ?_) (by rfl) rfl ?_ ?_
    rotate_left
    · go_simp
      rfl
    refine hK.out _ _ ?_
    clear hK K
    clear q0 q1 q2 q3 q4 q5 x0 x1 x2 x3 x4 x5
    have HJ := Aside0.mk HF.out.store
    clear HF
    generalize ((((((u6.setCell ⟨g6, 0, none⟩ (.slice q6.a0 r6.1.th.length q6.c0)).setCell ⟨g6, 1, none⟩ (.slice q6.a1 r6.1.at_.length q6.c1)).setCell ⟨g6, 2, none⟩ (.slice q6.a2 r6.1.su.length q6.c2)).setCell ⟨g6, 3, none⟩ (.slice q6.a3 r6.1.lo.length q6.c3)).setCell ⟨g6, 4, none⟩ (.slice q6.a4 r6.1.ce.length q6.c4)).setCell ⟨g6, 5, none⟩ (.slice q6.a5 r6.1.ch.length q6.c5)) = w7 at *
    refine pure_ (i := 11) (N := some 11) (v := ?_) (a' := ?_) #[true, true, true, true, true, true, true, true, true, true, true, true, false] rfl rfl (by kernel_rfl) (fun _ _ _ h => h) (Or.inl ⟨by rfl, ?_⟩) ?_ ?_
    rotate_left
    · intro w'
      go_simp
      with_reducible rfl
    rotate_left
    · simp only [Act.put, List.setIfInBounds_toArray, List.set_cons_zero, List.set_cons_succ, i64_w, i32_w]
      rfl
    refine pure_ (i := 12) (N := some 12) (v := ?_) (a' := ?_) #[true, true, true, true, true, true, true, true, true, true, true, true, true] rfl rfl (by kernel_rfl) (fun _ _ _ h => h) (Or.inl ⟨by rfl, ?_⟩) ?_ ?_
    rotate_left
    · intro w'
      go_simp
      with_reducible rfl
    rotate_left
    · simp only [Act.put, List.setIfInBounds_toArray, List.set_cons_zero, List.set_cons_succ, i64_w, i32_w]
      rfl
    refine done_ (by kernel_rfl) ?_
    have HJ6 := HJ
    have HB7 : Aside0 (Below v6.heap.size v6 w7) := ⟨HJ.out.bel⟩
    clear HJ HRUN6 qs
    obtain ⟨A7, L7, hA7, hL7, hcut⟩ : ∃ A7 L7, CI w4 A7 L7 ∧ L.drop kk = L7 ∧ ∀ W : World, (Instr.slice 23 (.slice A L.length c) (some (.int .i64 (kk : Int))) none none).run Try.prog W = .ok (.slice A7 L7.length (c - kk)) W := by
      obtain ⟨i, hi, hz1, hz0, -⟩ := info_parts info3
      refine ⟨_, _, Kd.C_drop HL40.out (m := kk) HKK.out hl60.2, rfl, fun W => ?_⟩
      have h3 := cut_from (P := Try.prog) 23 3 .i64 Try.underlying23 hi 1 hz0 A L.length c (kk : Int) (by omega) (by omega) W
      rw [Int.toNat_natCast] at h3
      rw [List.length_drop]
      exact h3
    have HL7 := Aside0.mk hA7
    have hn7 : L7.length ≤ 60 := by rw [← hL7, List.length_drop]; omega
    rw [hL7] at HAP
    have hb6r : Bd r6.1 := shp_bd (by rw [← HR6.out]; exact (runTo_shp HSH.out (L.take kk) (L.take kk).length).1 |> (fun h => by rwa [runTo_all] at h))
    have hb64 : Below w4.heap.size w4 v6 := HB6.out
    have hap := HAP.out
    rw [HR6.out] at hap
    obtain ⟨r7, c7, hc7, HRN7⟩ : ∃ (r7 : Syst × List Int) (c7 : Int), ((c7 = 0 ∧ M = r7.1 ∧ went = r6.2 ++ r7.2) ∨ c7 = 1) ∧ Aside0 (∀ (P : Nat → Bool) (V W : World), SysC V r6.1 q6 → Below V.heap.size V W → (∀ k, P k = true → V.heap.size ≤ k ∧ k < W.heap.size) → Below w4.heap.size w4 W → Calls Try.prog 9 #[.agg #[.slice q6.a0 r6.1.th.length q6.c0, .slice q6.a1 r6.1.at_.length q6.c1, .slice q6.a2 r6.1.su.length q6.c2, .slice q6.a3 r6.1.lo.length q6.c3, .slice q6.a4 r6.1.ce.length q6.c4, .slice q6.a5 r6.1.ch.length q6.c5], .slice A7 L7.length (c - kk)] W (RunQ P r7 c7 W)) := by
      cases hr6 : rightB r6.1 with
      | true => exact ⟨runS r6.1 L7, 0, .inl ⟨rfl, congrArg Prod.fst hap, congrArg Prod.snd hap⟩, ⟨fun P V W hC hb hP hw => run_right hr6 hb6r (hC.up (up_new hb (fun k hk => (hP k hk).1))) (fun k hk => (hP k hk).2) (Kd.C_below HL7.out hw) ⟨rfl, hn7⟩ rfl⟩⟩
      | false => exact ⟨(Syst.none, []), 1, .inr rfl, ⟨fun P V W hC hb hP hw => run_wrong hr6 hb6r (hC.up (up_new hb (fun k hk => (hP k hk).1))) (fun k hk => (hP k hk).2) (Kd.C_below HL7.out hw) ⟨rfl, hn7⟩⟩⟩
    have HC7 := Aside0.mk hc7
    clear hap hc7 hn7 hA7 hL7 hb6r HAP
    obtain ⟨q0, q1, q2, q3, q4, q5⟩ := six_cells HJ6.out.blk
    go_wp2
    refine start_ (n := 13) (S := fun w' => w'.cell? ⟨g6, 0, none⟩ = some (.slice q6.a0 r6.1.th.length q6.c0) ∧ w'.cell? ⟨g6, 1, none⟩ = some (.slice q6.a1 r6.1.at_.length q6.c1) ∧ w'.cell? ⟨g6, 2, none⟩ = some (.slice q6.a2 r6.1.su.length q6.c2) ∧ w'.cell? ⟨g6, 3, none⟩ = some (.slice q6.a3 r6.1.lo.length q6.c3) ∧ w'.cell? ⟨g6, 4, none⟩ = some (.slice q6.a4 r6.1.ce.length q6.c4) ∧ w'.cell? ⟨g6, 5, none⟩ = some (.slice q6.a5 r6.1.ch.length q6.c5)) (ds := [10]) #[false, false, false, false, false, false, false, false, false, false, false, false, false] (by kernel_rfl) rfl rfl ⟨q0, q1, q2, q3, q4, q5⟩ (fun hHeld => ?_)
    replace HJ6 := Aside0.mk (HJ6.out.below (below_drew (Below.refl _ _)))
    replace HB7 := Aside0.mk (below_drew HB7.out)
    clear q0 q1 q2 q3 q4 q5
    generalize w7.drew = v7 at *
    have HRUN7 : Aside0 (∀ (P : Nat → Bool) (W : World), Below v7.heap.size v7 W → (∀ k, P k = true → v7.heap.size ≤ k ∧ k < W.heap.size) → Calls Try.prog 9 #[.agg #[.slice q6.a0 r6.1.th.length q6.c0, .slice q6.a1 r6.1.at_.length q6.c1, .slice q6.a2 r6.1.su.length q6.c2, .slice q6.a3 r6.1.lo.length q6.c3, .slice q6.a4 r6.1.ce.length q6.c4, .slice q6.a5 r6.1.ch.length q6.c5], .slice A7 L7.length (c - kk)] W (RunQ P r7 c7 W)) := ⟨fun P W hb hP => HRN7.out P v7 W HJ6.out.sys hb hP (below_then hb64 hb64.size (below_then HB7.out HB7.out.size hb))⟩
    refine pure_ (i := 1) (N := some 69) (v := ?_) (a' := ?_) #[false, true, false, false, false, false, false, false, false, false, false, false, false] rfl rfl (by kernel_rfl) (fun _ _ _ h => h) (Or.inl ⟨by rfl, ?_⟩) ?_ ?_
    rotate_left
    · intro w'
      go_simp
      with_reducible rfl
    rotate_left
    · simp only [Act.put, List.setIfInBounds_toArray, List.set_cons_zero, List.set_cons_succ, i64_w, i32_w]
      rfl
    refine pure_ (i := 2) (N := some 70) (v := ?_) (a' := ?_) #[false, true, true, false, false, false, false, false, false, false, false, false, false] rfl rfl (by kernel_rfl) (fun _ _ _ h => h) (Or.inl ⟨by rfl, ?_⟩) ?_ ?_
    rotate_left
    · intro w'
      go_simp
      with_reducible rfl
    rotate_left
    · simp only [Act.put, List.setIfInBounds_toArray, List.set_cons_zero, List.set_cons_succ, i64_w, i32_w]
      rfl
    refine pure_ (i := 3) (N := some 71) (v := ?_) (a' := ?_) #[false, true, true, true, false, false, false, false, false, false, false, false, false] rfl rfl (by kernel_rfl) (fun _ _ _ h => h) (Or.inl ⟨by rfl, ?_⟩) ?_ ?_
    rotate_left
    · intro w'
      go_simp
      with_reducible rfl
    rotate_left
    · simp only [Act.put, List.setIfInBounds_toArray, List.set_cons_zero, List.set_cons_succ, i64_w, i32_w]
      rfl
    refine take_ (i := 0) (N := some 68) (v := ?_) (a' := ?_) #[true, true, true, true, false, false, false, false, false, false, false, false, false] rfl rfl (by kernel_rfl) (fun _ _ _ h => h) (Or.inl ⟨by rfl, ?_⟩) hHeld ?_ ?_
    rotate_left
    · rintro w' ⟨s0, s1, s2, s3, s4, s5⟩
      go_simp
      with_reducible rfl
    rotate_left
    · simp only [Act.put, List.setIfInBounds_toArray, List.set_cons_zero, List.set_cons_succ, i64_w, i32_w]
      rfl
    refine join_ (σ := Ad × Option Addr × Nat × Nat) 3 #[true, true, true, true, true, true, true, true, true, true, false, false, false] (fun q : Ad × Option Addr × Nat × Nat => [(72, (.tuple #[.agg (sysA r7.1 q.1), .slice q.2.1 r7.2.length q.2.2.1, .int .i64 c7])), (13, .pointer (some ⟨q.2.2.2, 0, none⟩)), (67, (.tuple #[.agg (sysA r7.1 q.1), .slice q.2.1 r7.2.length q.2.2.1, .int .i64 c7])), (73, .agg (sysA r7.1 q.1)), (74, .slice q.2.1 r7.2.length q.2.2.1), (75, .int .i64 c7)]) (fun q w' => JF v7 r7 w' q.1 q.2.1 q.2.2.1 q.2.2.2) ?_ ?_
    rotate_left
    · intro hc
      refine two_ (i := 4) (j := 9) (Ni := some 72) (Nj := some 13) #[true, true, true, true, true, false, false, false, false, false, false, false, false] #[true, true, true, true, false, false, false, false, false, true, false, false, false] rfl rfl rfl rfl (by kernel_rfl) (by decide) (by decide) (fun K hK => ?_) (fun K hK => ?_)
      · skip
        refine goes_ Try.func9 (by kernel_rfl) rfl #[.agg #[.slice q6.a0 r6.1.th.length q6.c0, .slice q6.a1 r6.1.at_.length q6.c1, .slice q6.a2 r6.1.su.length q6.c2, .slice q6.a3 r6.1.lo.length q6.c3, .slice q6.a4 r6.1.ce.length q6.c4, .slice q6.a5 r6.1.ch.length q6.c5], .slice A7 L7.length (c - kk)] (by rfl) rfl rfl (by (try simp only [List.map_toArray, List.map_cons, List.map_nil]); first | done | rfl) ?_
        refine (HRUN7.out (fun _ => false) v7 (Below.refl _ _) (fun k hk => by cases hk)).mono ?_
        rintro e u ⟨q, B, d, rfl, hs, hrow, hb⟩
        refine ⟨_, rfl, ?_⟩
        refine hK.out _ _ ⟨pw_cell_below hb hHeld.1, pw_cell_below hb hHeld.2.1, pw_cell_below hb hHeld.2.2.1, pw_cell_below hb hHeld.2.2.2.1, pw_cell_below hb hHeld.2.2.2.2.1, pw_cell_below hb hHeld.2.2.2.2.2⟩ (fun hHeld => ?_)
        clear hK K
        refine norm_ (a' := ?_) ?_ ?_
        rotate_left
        · show Act.put _ (some 72) _ = _
          simp only [Act.put, List.setIfInBounds_toArray, List.set_cons_zero, List.set_cons_succ, i64_w, i32_w]
          rfl
        refine pure_ (i := 5) (N := some 67) (v := ?_) (a' := ?_) #[true, true, true, true, true, true, false, false, false, false, false, false, false] rfl rfl (by kernel_rfl) (fun _ _ _ h => h) (Or.inl ⟨by rfl, ?_⟩) ?_ ?_
        rotate_left
        · intro w'
          go_simp
          with_reducible rfl
        rotate_left
        · simp only [Act.put, List.setIfInBounds_toArray, List.set_cons_zero, List.set_cons_succ, i64_w, i32_w]
          rfl
        refine pure_ (i := 6) (N := some 73) (v := ?_) (a' := ?_) #[true, true, true, true, true, true, true, false, false, false, false, false, false] rfl rfl (by kernel_rfl) (fun _ _ _ h => h) (Or.inl ⟨by rfl, ?_⟩) ?_ ?_
        rotate_left
        · intro w'
          go_simp
          with_reducible rfl
        rotate_left
        · simp only [Act.put, List.setIfInBounds_toArray, List.set_cons_zero, List.set_cons_succ, i64_w, i32_w]
          rfl
        refine pure_ (i := 7) (N := some 74) (v := ?_) (a' := ?_) #[true, true, true, true, true, true, true, true, false, false, false, false, false] rfl rfl (by kernel_rfl) (fun _ _ _ h => h) (Or.inl ⟨by rfl, ?_⟩) ?_ ?_
        rotate_left
        · intro w'
          go_simp
          with_reducible rfl
        rotate_left
        · simp only [Act.put, List.setIfInBounds_toArray, List.set_cons_zero, List.set_cons_succ, i64_w, i32_w]
          rfl
        refine pure_ (i := 8) (N := some 75) (v := ?_) (a' := ?_) #[true, true, true, true, true, true, true, true, true, false, false, false, false] rfl rfl (by kernel_rfl) (fun _ _ _ h => h) (Or.inl ⟨by rfl, ?_⟩) ?_ ?_
        rotate_left
        · intro w'
          go_simp
          with_reducible rfl
        rotate_left
        · simp only [Act.put, List.setIfInBounds_toArray, List.set_cons_zero, List.set_cons_succ, i64_w, i32_w]
          rfl
        refine one_ (i := 9) (N := some 13) #[true, true, true, true, true, true, true, true, true, true, false, false, false] rfl rfl (by kernel_rfl) (by decide) (fun K hK => ?_)
        refine value_ (v := .pointer (some ⟨u.heap.size, 0, none⟩)) (w1 := u.alloc (.cells z6 26)) (by rfl) rfl (by go_simp) ?_
        have hF := JF.callFirst hs hrow hb
        replace hb : Below u.heap.size u (u.alloc (.cells z6 26)) := (Below.refl _ _).alloc (Nat.le_refl _) _
        refine hK.out _ _ ⟨pw_cell_below hb hHeld.1, pw_cell_below hb hHeld.2.1, pw_cell_below hb hHeld.2.2.1, pw_cell_below hb hHeld.2.2.2.1, pw_cell_below hb hHeld.2.2.2.2.1, pw_cell_below hb hHeld.2.2.2.2.2⟩ (fun hHeld => norm_ ?_ (hc (q, B, d, u.heap.size) _ hF))
        simp only [putAll, Act.put, List.setIfInBounds_toArray, List.set_cons_zero, List.set_cons_succ]
      · skip
        refine value_ (v := .pointer (some ⟨v7.heap.size, 0, none⟩)) (w1 := v7.alloc (.cells z6 26)) (by rfl) rfl (by go_simp) ?_
        have hb : Below v7.heap.size v7 (v7.alloc (.cells z6 26)) := (Below.refl _ _).alloc (Nat.le_refl _) _
        refine hK.out _ _ ⟨pw_cell_below hb hHeld.1, pw_cell_below hb hHeld.2.1, pw_cell_below hb hHeld.2.2.1, pw_cell_below hb hHeld.2.2.2.1, pw_cell_below hb hHeld.2.2.2.2.1, pw_cell_below hb hHeld.2.2.2.2.2⟩ (fun hHeld => ?_)
        clear hK K
        refine one_ (i := 4) (N := some 72) #[true, true, true, true, true, false, false, false, false, true, false, false, false] rfl rfl (by kernel_rfl) (by decide) (fun K hK => ?_)
        refine goes_ Try.func9 (by kernel_rfl) rfl #[.agg #[.slice q6.a0 r6.1.th.length q6.c0, .slice q6.a1 r6.1.at_.length q6.c1, .slice q6.a2 r6.1.su.length q6.c2, .slice q6.a3 r6.1.lo.length q6.c3, .slice q6.a4 r6.1.ce.length q6.c4, .slice q6.a5 r6.1.ch.length q6.c5], .slice A7 L7.length (c - kk)] (by rfl) rfl rfl (by (try simp only [List.map_toArray, List.map_cons, List.map_nil]); first | done | rfl) ?_
        refine (HRUN7.out (fun k => k == v7.heap.size) _ hb (fun k hk => by have h1 := beq_iff_eq.1 hk; subst h1; rw [alloc_size]; omega)).mono ?_
        rintro e u ⟨q, B, d, rfl, hs, hrow, hb2⟩
        refine ⟨_, rfl, ?_⟩
        have hF := JF.allocFirst hs hrow hb2
        replace hb := hb2
        refine hK.out _ _ ⟨pw_cell_below hb hHeld.1, pw_cell_below hb hHeld.2.1, pw_cell_below hb hHeld.2.2.1, pw_cell_below hb hHeld.2.2.2.1, pw_cell_below hb hHeld.2.2.2.2.1, pw_cell_below hb hHeld.2.2.2.2.2⟩ (fun hHeld => ?_)
        clear hK K
        refine norm_ (a' := ?_) ?_ ?_
        rotate_left
        · show Act.put (Act.put _ (some 13) _) (some 72) _ = _
          simp only [Act.put, List.setIfInBounds_toArray, List.set_cons_zero, List.set_cons_succ, i64_w, i32_w]
          rfl
        refine pure_ (i := 5) (N := some 67) (v := ?_) (a' := ?_) #[true, true, true, true, true, true, false, false, false, true, false, false, false] rfl rfl (by kernel_rfl) (fun _ _ _ h => h) (Or.inl ⟨by rfl, ?_⟩) ?_ ?_
        rotate_left
        · intro w'
          go_simp
          with_reducible rfl
        rotate_left
        · simp only [Act.put, List.setIfInBounds_toArray, List.set_cons_zero, List.set_cons_succ, i64_w, i32_w]
          rfl
        refine pure_ (i := 6) (N := some 73) (v := ?_) (a' := ?_) #[true, true, true, true, true, true, true, false, false, true, false, false, false] rfl rfl (by kernel_rfl) (fun _ _ _ h => h) (Or.inl ⟨by rfl, ?_⟩) ?_ ?_
        rotate_left
        · intro w'
          go_simp
          with_reducible rfl
        rotate_left
        · simp only [Act.put, List.setIfInBounds_toArray, List.set_cons_zero, List.set_cons_succ, i64_w, i32_w]
          rfl
        refine pure_ (i := 7) (N := some 74) (v := ?_) (a' := ?_) #[true, true, true, true, true, true, true, true, false, true, false, false, false] rfl rfl (by kernel_rfl) (fun _ _ _ h => h) (Or.inl ⟨by rfl, ?_⟩) ?_ ?_
        rotate_left
        · intro w'
          go_simp
          with_reducible rfl
        rotate_left
        · simp only [Act.put, List.setIfInBounds_toArray, List.set_cons_zero, List.set_cons_succ, i64_w, i32_w]
          rfl
        refine pure_ (i := 8) (N := some 75) (v := ?_) (a' := ?_) #[true, true, true, true, true, true, true, true, true, true, false, false, false] rfl rfl (by kernel_rfl) (fun _ _ _ h => h) (Or.inl ⟨by rfl, ?_⟩) ?_ ?_
        rotate_left
        · intro w'
          go_simp
          with_reducible rfl
        rotate_left
        · simp only [Act.put, List.setIfInBounds_toArray, List.set_cons_zero, List.set_cons_succ, i64_w, i32_w]
          rfl
        refine norm_ ?_ (hc (q, B, d, v7.heap.size) _ hF)
        simp only [putAll, Act.put, List.setIfInBounds_toArray, List.set_cons_zero, List.set_cons_succ]
    rintro ⟨q7, B7, d7, g7⟩ u7 hF
    refine norm_ (a' := ?_) ?_ ?_
    rotate_left
    · simp only [putAll, Act.put, List.setIfInBounds_toArray, List.set_cons_zero, List.set_cons_succ, i64_w, i32_w]
      rfl
    have HF := Aside0.mk hF
    clear hF hHeld
    dsimp only at HF
    unfold sysA
    refine last_ (i := 10) (N := none) #[true, true, true, true, true, true, true, true, true, true, true, false, false] rfl rfl (by kernel_rfl) (by decide) (fun K hK => ?_)
    obtain ⟨q0, q1, q2, q3, q4, q5⟩ := six_cells HF.out.blk
    obtain ⟨x0, x1, x2, x3, x4, x5⟩ := six_frozen HF.out.blk
    refine skip_ (w1 := ?_) (by rfl) rfl ?_ ?_
    rotate_left
    · go_simp
      rfl
    refine hK.out _ _ ?_
    clear hK K
    clear q0 q1 q2 q3 q4 q5 x0 x1 x2 x3 x4 x5
    have HJ := Aside0.mk HF.out.store
    clear HF
    generalize ((((((u7.setCell ⟨g7, 0, none⟩ (.slice q7.a0 r7.1.th.length q7.c0)).setCell ⟨g7, 1, none⟩ (.slice q7.a1 r7.1.at_.length q7.c1)).setCell ⟨g7, 2, none⟩ (.slice q7.a2 r7.1.su.length q7.c2)).setCell ⟨g7, 3, none⟩ (.slice q7.a3 r7.1.lo.length q7.c3)).setCell ⟨g7, 4, none⟩ (.slice q7.a4 r7.1.ce.length q7.c4)).setCell ⟨g7, 5, none⟩ (.slice q7.a5 r7.1.ch.length q7.c5)) = w8 at *
    refine pure_ (i := 11) (N := some 14) (v := ?_) (a' := ?_) #[true, true, true, true, true, true, true, true, true, true, true, true, false] rfl rfl (by kernel_rfl) (fun _ _ _ h => h) (Or.inl ⟨by rfl, ?_⟩) ?_ ?_
    rotate_left
    · intro w'
      go_simp
      with_reducible rfl
    rotate_left
    · simp only [Act.put, List.setIfInBounds_toArray, List.set_cons_zero, List.set_cons_succ, i64_w, i32_w]
      rfl
    refine pure_ (i := 12) (N := some 15) (v := ?_) (a' := ?_) #[true, true, true, true, true, true, true, true, true, true, true, true, true] rfl rfl (by kernel_rfl) (fun _ _ _ h => h) (Or.inl ⟨by rfl, ?_⟩) ?_ ?_
    rotate_left
    · intro w'
      go_simp
      with_reducible rfl
    rotate_left
    · simp only [Act.put, List.setIfInBounds_toArray, List.set_cons_zero, List.set_cons_succ, i64_w, i32_w]
      rfl
    refine done_ (by kernel_rfl) ?_
    have HJ7 := HJ
    clear HJ HRUN7 HRN7 hcut
    have hbx : Below v6.heap.size v6 w8 := below_then HB7.out HB7.out.size HJ7.out.bel
    have HBW := Aside0.mk (below_then (below_then HB.out HB.out.size HB6.out) (below_then HB.out HB.out.size HB6.out).size hbx)
    replace HM := Aside0.mk (HM.out.below hbx)
    replace HWR := Aside0.mk (Kd.C_below HWR.out hbx)
    replace HG := Aside0.mk (blk_below HG.out hbx)
    replace HA := Aside0.mk (blk_below HA.out hbx)
    replace HS1 := Aside0.mk (HS1.out.below hbx)
    replace HJ6 := Aside0.mk (HJ6.out.below HJ7.out.bel)
    clear hbx hb64 HB6 HB7 HB HL4 HL40 HLT HL7 HLK
    have HMB := Aside0.mk (shp_bd HRS.out)
    rcases HC7.out with ⟨rfl, hM, hW⟩ | rfl
    · as_aux_lemma =>
      have HMM := Aside0.mk hM
      have HWW := Aside0.mk hW
      have HCC : Aside0 (∀ W g, W.heap[g]? = some (.cells #[.slice B6 r6.2.length d6, .slice B7 r7.2.length d7] 23 (0, 0)) → CI W B6 r6.2 → CI W B7 r7.2 → Calls Try.prog 29 #[.slice (some ⟨g, 0, none⟩) 2 2] W (fun e w' => ∃ B8 d8, e = .returned (.slice B8 went.length d8) ∧ CI w' B8 went ∧ went.length ≤ d8 ∧ Below W.heap.size W w')) := ⟨fun W g hb h1 h2 => (concat_calls (some ⟨g, 0, none⟩) 2 [r6.2, r7.2] W (two_CR hb h1 HJ6.out.le h2 HJ7.out.le) (by rw [flat_two, ← hW]; have := HRL.out; omega) (by simp)).mono (by
        rintro e w' ⟨v, rfl, hrow, hbb⟩
        rw [flat_two, ← hW] at hrow
        obtain ⟨B8, d8, rfl⟩ := row_slice hrow
        exact ⟨B8, d8, rfl, (rowI_CI hrow).1, (rowI_CI hrow).2, hbb⟩)⟩
      clear hM hW
      obtain ⟨q0, q1, q2, q3, q4, q5⟩ := six_cells HG.out; obtain ⟨z0, z1, z2, z3, z4, z5⟩ := six_cells HA.out; obtain ⟨r0, r1, r2, r3, r4, r5⟩ := six_cells HJ7.out.blk
      go_wp2_with (first
        | (go_at_call 11; refine (alive_calls _).mono ?_; rintro e wP ⟨rfl, hb⟩; replace HG := Aside0.mk (blk_below HG.out hb); replace HA := Aside0.mk (blk_below HA.out hb); replace HM := Aside0.mk (HM.out.below hb); replace HWR := Aside0.mk (Kd.C_below HWR.out hb); replace HS1 := Aside0.mk (HS1.out.below hb); replace HBW := Aside0.mk (below_then HBW.out HBW.out.size hb); replace HJ6 := Aside0.mk (HJ6.out.below hb); replace HJ7 := Aside0.mk (HJ7.out.below hb); clear hb; clear q0 q1 q2 q3 q4 q5 z0 z1 z2 z3 z4 z5 r0 r1 r2 r3 r4 r5; obtain ⟨q0, q1, q2, q3, q4, q5⟩ := six_cells HG.out; obtain ⟨z0, z1, z2, z3, z4, z5⟩ := six_cells HA.out; obtain ⟨r0, r1, r2, r3, r4, r5⟩ := six_cells HJ7.out.blk)
        | (go_at_call 12; refine (same_calls2 r7.1 M q7 p2 wP HJ7.out.sys HM.out HMM.out HMB.out).mono ?_; rintro e wQ ⟨rfl, hb⟩; replace HG := Aside0.mk (blk_below HG.out hb); replace HA := Aside0.mk (blk_below HA.out hb); replace HM := Aside0.mk (HM.out.below hb); replace HWR := Aside0.mk (Kd.C_below HWR.out hb); replace HS1 := Aside0.mk (HS1.out.below hb); replace HBW := Aside0.mk (below_then HBW.out HBW.out.size hb); replace HJ6 := Aside0.mk (HJ6.out.below hb); replace HJ7 := Aside0.mk (HJ7.out.below hb); clear hb; clear q0 q1 q2 q3 q4 q5 z0 z1 z2 z3 z4 z5 r0 r1 r2 r3 r4 r5; obtain ⟨q0, q1, q2, q3, q4, q5⟩ := six_cells HG.out; obtain ⟨z0, z1, z2, z3, z4, z5⟩ := six_cells HA.out; obtain ⟨r0, r1, r2, r3, r4, r5⟩ := six_cells HJ7.out.blk)
        | (go_at_call 29; have hal : Below wQ.heap.size wQ (wQ.alloc (.cells #[.slice B6 r6.2.length d6, .slice B7 r7.2.length d7] 23)) := (Below.refl _ _).alloc (Nat.le_refl _) _; refine (HCC.out _ _ (blk_new wQ _) (Kd.C_below HJ6.out.row hal) (Kd.C_below HJ7.out.row hal)).mono ?_; rintro e wR ⟨B8, d8, rfl, h8, hd8, hb0⟩; have hb := hal.trans (hb0.mono hal.size); have H8 := Aside0.mk h8; have HD8 := Aside0.mk hd8; clear hal hb0 h8 hd8; replace HG := Aside0.mk (blk_below HG.out hb); replace HA := Aside0.mk (blk_below HA.out hb); replace HM := Aside0.mk (HM.out.below hb); replace HWR := Aside0.mk (Kd.C_below HWR.out hb); replace HS1 := Aside0.mk (HS1.out.below hb); replace HBW := Aside0.mk (below_then HBW.out HBW.out.size hb); replace HJ6 := Aside0.mk (HJ6.out.below hb); replace HJ7 := Aside0.mk (HJ7.out.below hb); clear hb; clear q0 q1 q2 q3 q4 q5 z0 z1 z2 z3 z4 z5 r0 r1 r2 r3 r4 r5; obtain ⟨q0, q1, q2, q3, q4, q5⟩ := six_cells HG.out; obtain ⟨z0, z1, z2, z3, z4, z5⟩ := six_cells HA.out; obtain ⟨r0, r1, r2, r3, r4, r5⟩ := six_cells HJ7.out.blk)
        | (go_at_call 14; refine (downpourref01_Numbers.calls 1000 B8 d8 went B d went true wR H8.out HD8.out HWR.out HWD.out (num_refl went (by have := HRL.out; omega) 1000 (by have := HRL.out; omega))).mono ?_; rintro e w9 ⟨rfl, hd⟩; have hb := hd.below; clear hd; replace HG := Aside0.mk (blk_below HG.out hb); replace HA := Aside0.mk (blk_below HA.out hb); replace HM := Aside0.mk (HM.out.below hb); replace HWR := Aside0.mk (Kd.C_below HWR.out hb); replace HS1 := Aside0.mk (HS1.out.below hb); replace HBW := Aside0.mk (below_then HBW.out HBW.out.size hb); replace HJ6 := Aside0.mk (HJ6.out.below hb); replace HJ7 := Aside0.mk (HJ7.out.below hb); clear hb; clear q0 q1 q2 q3 q4 q5 z0 z1 z2 z3 z4 z5 r0 r1 r2 r3 r4 r5; obtain ⟨q0, q1, q2, q3, q4, q5⟩ := six_cells HG.out; obtain ⟨z0, z1, z2, z3, z4, z5⟩ := six_cells HA.out; obtain ⟨r0, r1, r2, r3, r4, r5⟩ := six_cells HJ7.out.blk))
      clear z0 z1 z2 z3 z4 z5 r0 r1 r2 r3 r4 r5
      have hal : Below w9.heap.size w9 (w9.alloc (.cells #[.slice p1.a0 S.th.length p1.c0, .slice p1.a1 S.at_.length p1.c1, .slice p1.a2 S.su.length p1.c2, .slice p1.a3 S.lo.length p1.c3, .slice p1.a4 S.ce.length p1.c4, .slice p1.a5 S.ch.length p1.c5] 26)) := (Below.refl _ _).alloc (Nat.le_refl _) _
      have HNB : Aside0 (InNow w9.heap.size (w9.alloc (.cells #[.slice p1.a0 S.th.length p1.c0, .slice p1.a1 S.at_.length p1.c1, .slice p1.a2 S.su.length p1.c2, .slice p1.a3 S.lo.length p1.c3, .slice p1.a4 S.ce.length p1.c4, .slice p1.a5 S.ch.length p1.c5] 26)) (goS S (went.take 0))) := ⟨⟨p1, blk_new w9 _, HS1.out.up (up_new hal (fun k hk => by have := beq_iff_eq.1 hk; omega))⟩⟩
      have HAL := Aside0.mk hal
      clear hal q0 q1 q2 q3 q4 q5
      generalize w9.alloc (.cells #[.slice p1.a0 S.th.length p1.c0, .slice p1.a1 S.at_.length p1.c1, .slice p1.a2 S.su.length p1.c2, .slice p1.a3 S.lo.length p1.c3, .slice p1.a4 S.ce.length p1.c4, .slice p1.a5 S.ch.length p1.c5] 26) = wA at *
      go_loopw [114] (fun v114 W => ∃ j : Nat, j ≤ went.length ∧ v114 = .int .i64 j ∧ Aside0 (Below w9.heap.size w9 W) ∧ Aside0 (InNow w9.heap.size W (goS S (went.take j)))) (fun v114 _ => went.length - (intOf v114).toNat)
      case atStart => exact ⟨0, Nat.zero_le _, rfl, HAL, HNB⟩
      case round => as_aux_lemma =>
        clear HAL HNB
        obtain ⟨j, hj, rfl, HBJ, HNJ⟩ := hrel
        obtain ⟨⟨q, hblk, hsysq⟩⟩ := HNJ
        have HNQ := Aside0.mk hblk
        have HSQ := Aside0.mk hsysq
        clear hblk hsysq
        have HNS := Aside0.mk (HGS.out j hj)
        by_cases hlt : j < went.length
        · obtain ⟨t, ht⟩ : ∃ t, went[j]? = some t := ⟨_, List.getElem?_eq_getElem hlt⟩
          obtain ⟨ad, rfl, t0⟩ := Kd.at_int (Kd.C_below HWR.out HBJ.out) (j : Int) (by omega) (by omega)
          rw [rdI ht, Int.toNat_natCast] at t0
          have HTE := Aside0.mk (HW0.out.can j t ht)
          have HGN := Aside0.mk (goS_succ (s := S) ht)
          have hl60' : went.length ≤ 60 := by have := HRL.out; omega
          clear ht
          generalize goS S (went.take j) = N at *
          have HNL : Aside0 ((enL N).length ≤ 8) := ⟨by
            have h1 := HNS.out.n
            unfold enL
            rw [List.length_map]
            exact Nat.le_trans (List.length_filter_le _ _) (by simp; exact h1)⟩
          have HLT : Aside0 (w9.heap.size < wr.heap.size) := ⟨blk_lt HNQ.out⟩
          have HEN := Aside0.mk (fun W (h : Below wr.heap.size wr W) => xEnabled_calls N q W ((HSQ.out.up (hid_up _ _)).below h) (shp_bd HNS.out))
          obtain ⟨q0, q1, q2, q3, q4, q5⟩ := six_cells HNQ.out
          obtain ⟨x0, x1, x2, x3, x4, x5⟩ := six_frozen HNQ.out
          cases hrn : rightB N with
          | false =>
            have HRN := Aside0.mk hrn
            clear hrn
            unfold sysA at HEN
            go_wp2_with (go_at_call 23; refine (HEN.out _ (Below.refl _ _)).mono ?_; rintro e wB ⟨v, rfl, hrow, hb⟩; rw [HRN.out]; have e1 : eno false = 1 := rfl; rw [e1]; have HBB := Aside0.mk hb; clear hb hrow e1)
            go_ret
            exact ⟨rfl, below_then HBW.out HBW.out.size (HBJ.out.trans (HBB.out.mono HBJ.out.size))⟩
          | true =>
            have HRN := Aside0.mk hrn
            have HST := Aside0.mk (fun W (h : Below wr.heap.size wr W) => xStep_calls (fun k => k == w9.heap.size) N q t W (HSQ.out.up (up_hid h (fun _ _ h => h))) (fun k hk => by have h1 := beq_iff_eq.1 hk; subst h1; exact Nat.lt_of_lt_of_le HLT.out h.size) (shp_bd HNS.out))
            have HX : Aside0 (xStep N t = (stepN N t.toNat, 0)) := ⟨xStep_of hrn HTE.out⟩
            rw [HX.out] at HST
            unfold XStepP at HST
            clear hrn
            unfold sysA at HEN HST
            go_wp2_with (first
              | (go_at_call 23; refine (HEN.out _ (Below.refl _ _)).mono ?_; rintro e wB ⟨v, rfl, hrow, hb⟩; rw [HRN.out, if_pos rfl] at hrow; rw [HRN.out]; have e1 : eno true = 0 := rfl; rw [e1]; obtain ⟨E, dE, rfl⟩ := row_slice hrow; have HER := Aside0.mk (rowI_CI hrow); have HBB := Aside0.mk hb; replace HNQ := Aside0.mk (blk_below HNQ.out hb); clear hb hrow e1 q0 q1 q2 q3 q4 q5 x0 x1 x2 x3 x4 x5; obtain ⟨q0, q1, q2, q3, q4, q5⟩ := six_cells HNQ.out; obtain ⟨x0, x1, x2, x3, x4, x5⟩ := six_frozen HNQ.out)
              | (go_at_call 24; refine (HST.out _ HBB.out).mono ?_; rintro e wC ⟨⟨b0, e0, b1, e1, b2, e2, b3, e3, b4, e4, b5, e5⟩, rfl, hsn, hb⟩; have HSN := Aside0.mk hsn; have HBC := Aside0.mk (HBB.out.trans (hb.mono HBB.out.size)); replace HER : Aside0 (CI wC E (enL N) ∧ (enL N).length ≤ dE) := ⟨⟨Kd.C_below HER.out.1 hb, HER.out.2⟩⟩; replace HNQ := Aside0.mk (blk_below HNQ.out hb); clear hb hsn q0 q1 q2 q3 q4 q5 x0 x1 x2 x3 x4 x5; obtain ⟨q0, q1, q2, q3, q4, q5⟩ := six_cells HNQ.out; obtain ⟨x0, x1, x2, x3, x4, x5⟩ := six_frozen HNQ.out; dsimp only)
              | (go_at_call 30; refine hold ?_))
            have hal2 : Below wC.heap.size wC (wC.alloc (.cells #[.slice b0 (stepN N t.toNat).th.length e0, .slice b1 (stepN N t.toNat).at_.length e1, .slice b2 (stepN N t.toNat).su.length e2, .slice b3 (stepN N t.toNat).lo.length e3, .slice b4 (stepN N t.toNat).ce.length e4, .slice b5 (stepN N t.toNat).ch.length e5] 26)) := (Below.refl _ _).alloc (Nat.le_refl _) _
            refine ⟨(slices_Contains_int_int.calls 1000 E dE (enL N) t true _ (Kd.C_below HER.out.1 hal2) HER.out.2 (cont_mem _ _ (by have := HNL.out; omega) HTE.out)).mono ?_⟩
            rintro e wD ⟨rfl, hd⟩
            have hbD := hal2.trans (hd.below.mono hal2.size)
            have HQ2 := Aside0.mk (blk_below (blk_new wC (.cells #[.slice b0 (stepN N t.toNat).th.length e0, .slice b1 (stepN N t.toNat).at_.length e1, .slice b2 (stepN N t.toNat).su.length e2, .slice b3 (stepN N t.toNat).lo.length e3, .slice b4 (stepN N t.toNat).ce.length e4, .slice b5 (stepN N t.toNat).ch.length e5] 26)) hd.below)
            replace HNQ := Aside0.mk (blk_below HNQ.out hbD)
            replace HSN := Aside0.mk (HSN.out.up (up_hid hbD (fun _ _ h => h)))
            have HBD := Aside0.mk (HBJ.out.trans ((HBC.out.trans (hbD.mono HBC.out.size)).mono HBJ.out.size))
            clear hal2 hd hbD q0 q1 q2 q3 q4 q5 x0 x1 x2 x3 x4 x5 HER HBC HBB HST HEN t0
            obtain ⟨q0, q1, q2, q3, q4, q5⟩ := six_cells HQ2.out
            obtain ⟨z0, z1, z2, z3, z4, z5⟩ := six_cells HNQ.out
            obtain ⟨x0, x1, x2, x3, x4, x5⟩ := six_frozen HNQ.out
            go_wp2
            go_roundw
            case rel => exact ⟨j + 1, hlt, by go_num, ⟨below_six HBD.out (Nat.le_refl _)⟩, ⟨by rw [HGN.out]; exact ⟨⟨⟨b0, e0, b1, e1, b2, e2, b3, e3, b4, e4, b5, e5⟩, six_put _ _ _ _ _ _ HNQ.out, HSN.out.up (hid_six (by simp))⟩⟩⟩⟩
            case measure => simp [intOf]; omega
        · obtain rfl : j = went.length := by omega
          have he : goS S (went.take went.length) = M := by rw [List.take_length]; exact HW0.out.go
          rw [he] at HNQ HSQ
          have HSM := Aside0.mk (same_calls M q p2 wr (HSQ.out.up (hid_up _ _)) (HM.out.below HBJ.out) HMB.out)
          replace HA := Aside0.mk (blk_below HA.out HBJ.out)
          clear he
          obtain ⟨q0, q1, q2, q3, q4, q5⟩ := six_cells HNQ.out
          obtain ⟨z0, z1, z2, z3, z4, z5⟩ := six_cells HA.out
          go_wp2_with (go_at_call 12; refine HSM.out.mono ?_; rintro e wE ⟨rfl, hb⟩; have HBE := Aside0.mk hb; clear hb)
          go_ret
          exact ⟨rfl, below_then HBW.out HBW.out.size (HBJ.out.trans (HBE.out.mono HBJ.out.size))⟩
    · as_aux_lemma =>
      obtain ⟨q0, q1, q2, q3, q4, q5⟩ := six_cells HG.out
      go_wp2_with (go_at_call 11; refine (alive_calls _).mono ?_; rintro e w9 ⟨rfl, hb⟩; replace HG := Aside0.mk (blk_below HG.out hb); replace HA := Aside0.mk (blk_below HA.out hb); replace HM := Aside0.mk (HM.out.below hb); replace HWR := Aside0.mk (Kd.C_below HWR.out hb); replace HS1 := Aside0.mk (HS1.out.below hb); replace HBW := Aside0.mk (below_then HBW.out HBW.out.size hb); clear hb q0 q1 q2 q3 q4 q5; obtain ⟨q0, q1, q2, q3, q4, q5⟩ := six_cells HG.out)
      have hal : Below w9.heap.size w9 (w9.alloc (.cells #[.slice p1.a0 S.th.length p1.c0, .slice p1.a1 S.at_.length p1.c1, .slice p1.a2 S.su.length p1.c2, .slice p1.a3 S.lo.length p1.c3, .slice p1.a4 S.ce.length p1.c4, .slice p1.a5 S.ch.length p1.c5] 26)) := (Below.refl _ _).alloc (Nat.le_refl _) _
      have HNB : Aside0 (InNow w9.heap.size (w9.alloc (.cells #[.slice p1.a0 S.th.length p1.c0, .slice p1.a1 S.at_.length p1.c1, .slice p1.a2 S.su.length p1.c2, .slice p1.a3 S.lo.length p1.c3, .slice p1.a4 S.ce.length p1.c4, .slice p1.a5 S.ch.length p1.c5] 26)) (goS S (went.take 0))) := ⟨⟨p1, blk_new w9 _, HS1.out.up (up_new hal (fun k hk => by have := beq_iff_eq.1 hk; omega))⟩⟩
      have HAL := Aside0.mk hal
      clear hal q0 q1 q2 q3 q4 q5
      generalize w9.alloc (.cells #[.slice p1.a0 S.th.length p1.c0, .slice p1.a1 S.at_.length p1.c1, .slice p1.a2 S.su.length p1.c2, .slice p1.a3 S.lo.length p1.c3, .slice p1.a4 S.ce.length p1.c4, .slice p1.a5 S.ch.length p1.c5] 26) = wA at *
      go_loopw [114] (fun v114 W => ∃ j : Nat, j ≤ went.length ∧ v114 = .int .i64 j ∧ Aside0 (Below w9.heap.size w9 W) ∧ Aside0 (InNow w9.heap.size W (goS S (went.take j)))) (fun v114 _ => went.length - (intOf v114).toNat)
      case atStart => exact ⟨0, Nat.zero_le _, rfl, HAL, HNB⟩
      case round => as_aux_lemma =>
        clear HAL HNB
        obtain ⟨j, hj, rfl, HBJ, HNJ⟩ := hrel
        obtain ⟨⟨q, hblk, hsysq⟩⟩ := HNJ
        have HNQ := Aside0.mk hblk
        have HSQ := Aside0.mk hsysq
        clear hblk hsysq
        have HNS := Aside0.mk (HGS.out j hj)
        by_cases hlt : j < went.length
        · obtain ⟨t, ht⟩ : ∃ t, went[j]? = some t := ⟨_, List.getElem?_eq_getElem hlt⟩
          obtain ⟨ad, rfl, t0⟩ := Kd.at_int (Kd.C_below HWR.out HBJ.out) (j : Int) (by omega) (by omega)
          rw [rdI ht, Int.toNat_natCast] at t0
          have HTE := Aside0.mk (HW0.out.can j t ht)
          have HGN := Aside0.mk (goS_succ (s := S) ht)
          have hl60' : went.length ≤ 60 := by have := HRL.out; omega
          clear ht
          generalize goS S (went.take j) = N at *
          have HNL : Aside0 ((enL N).length ≤ 8) := ⟨by
            have h1 := HNS.out.n
            unfold enL
            rw [List.length_map]
            exact Nat.le_trans (List.length_filter_le _ _) (by simp; exact h1)⟩
          have HLT : Aside0 (w9.heap.size < wr.heap.size) := ⟨blk_lt HNQ.out⟩
          have HEN := Aside0.mk (fun W (h : Below wr.heap.size wr W) => xEnabled_calls N q W ((HSQ.out.up (hid_up _ _)).below h) (shp_bd HNS.out))
          obtain ⟨q0, q1, q2, q3, q4, q5⟩ := six_cells HNQ.out
          obtain ⟨x0, x1, x2, x3, x4, x5⟩ := six_frozen HNQ.out
          cases hrn : rightB N with
          | false =>
            have HRN := Aside0.mk hrn
            clear hrn
            unfold sysA at HEN
            go_wp2_with (go_at_call 23; refine (HEN.out _ (Below.refl _ _)).mono ?_; rintro e wB ⟨v, rfl, hrow, hb⟩; rw [HRN.out]; have e1 : eno false = 1 := rfl; rw [e1]; have HBB := Aside0.mk hb; clear hb hrow e1)
            go_ret
            exact ⟨rfl, below_then HBW.out HBW.out.size (HBJ.out.trans (HBB.out.mono HBJ.out.size))⟩
          | true =>
            have HRN := Aside0.mk hrn
            have HST := Aside0.mk (fun W (h : Below wr.heap.size wr W) => xStep_calls (fun k => k == w9.heap.size) N q t W (HSQ.out.up (up_hid h (fun _ _ h => h))) (fun k hk => by have h1 := beq_iff_eq.1 hk; subst h1; exact Nat.lt_of_lt_of_le HLT.out h.size) (shp_bd HNS.out))
            have HX : Aside0 (xStep N t = (stepN N t.toNat, 0)) := ⟨xStep_of hrn HTE.out⟩
            rw [HX.out] at HST
            unfold XStepP at HST
            clear hrn
            unfold sysA at HEN HST
            go_wp2_with (first
              | (go_at_call 23; refine (HEN.out _ (Below.refl _ _)).mono ?_; rintro e wB ⟨v, rfl, hrow, hb⟩; rw [HRN.out, if_pos rfl] at hrow; rw [HRN.out]; have e1 : eno true = 0 := rfl; rw [e1]; obtain ⟨E, dE, rfl⟩ := row_slice hrow; have HER := Aside0.mk (rowI_CI hrow); have HBB := Aside0.mk hb; replace HNQ := Aside0.mk (blk_below HNQ.out hb); clear hb hrow e1 q0 q1 q2 q3 q4 q5 x0 x1 x2 x3 x4 x5; obtain ⟨q0, q1, q2, q3, q4, q5⟩ := six_cells HNQ.out; obtain ⟨x0, x1, x2, x3, x4, x5⟩ := six_frozen HNQ.out)
              | (go_at_call 24; refine (HST.out _ HBB.out).mono ?_; rintro e wC ⟨⟨b0, e0, b1, e1, b2, e2, b3, e3, b4, e4, b5, e5⟩, rfl, hsn, hb⟩; have HSN := Aside0.mk hsn; have HBC := Aside0.mk (HBB.out.trans (hb.mono HBB.out.size)); replace HER : Aside0 (CI wC E (enL N) ∧ (enL N).length ≤ dE) := ⟨⟨Kd.C_below HER.out.1 hb, HER.out.2⟩⟩; replace HNQ := Aside0.mk (blk_below HNQ.out hb); clear hb hsn q0 q1 q2 q3 q4 q5 x0 x1 x2 x3 x4 x5; obtain ⟨q0, q1, q2, q3, q4, q5⟩ := six_cells HNQ.out; obtain ⟨x0, x1, x2, x3, x4, x5⟩ := six_frozen HNQ.out; dsimp only)
              | (go_at_call 30; refine hold ?_))
            have hal2 : Below wC.heap.size wC (wC.alloc (.cells #[.slice b0 (stepN N t.toNat).th.length e0, .slice b1 (stepN N t.toNat).at_.length e1, .slice b2 (stepN N t.toNat).su.length e2, .slice b3 (stepN N t.toNat).lo.length e3, .slice b4 (stepN N t.toNat).ce.length e4, .slice b5 (stepN N t.toNat).ch.length e5] 26)) := (Below.refl _ _).alloc (Nat.le_refl _) _
            refine ⟨(slices_Contains_int_int.calls 1000 E dE (enL N) t true _ (Kd.C_below HER.out.1 hal2) HER.out.2 (cont_mem _ _ (by have := HNL.out; omega) HTE.out)).mono ?_⟩
            rintro e wD ⟨rfl, hd⟩
            have hbD := hal2.trans (hd.below.mono hal2.size)
            have HQ2 := Aside0.mk (blk_below (blk_new wC (.cells #[.slice b0 (stepN N t.toNat).th.length e0, .slice b1 (stepN N t.toNat).at_.length e1, .slice b2 (stepN N t.toNat).su.length e2, .slice b3 (stepN N t.toNat).lo.length e3, .slice b4 (stepN N t.toNat).ce.length e4, .slice b5 (stepN N t.toNat).ch.length e5] 26)) hd.below)
            replace HNQ := Aside0.mk (blk_below HNQ.out hbD)
            replace HSN := Aside0.mk (HSN.out.up (up_hid hbD (fun _ _ h => h)))
            have HBD := Aside0.mk (HBJ.out.trans ((HBC.out.trans (hbD.mono HBC.out.size)).mono HBJ.out.size))
            clear hal2 hd hbD q0 q1 q2 q3 q4 q5 x0 x1 x2 x3 x4 x5 HER HBC HBB HST HEN t0
            obtain ⟨q0, q1, q2, q3, q4, q5⟩ := six_cells HQ2.out
            obtain ⟨z0, z1, z2, z3, z4, z5⟩ := six_cells HNQ.out
            obtain ⟨x0, x1, x2, x3, x4, x5⟩ := six_frozen HNQ.out
            go_wp2
            go_roundw
            case rel => exact ⟨j + 1, hlt, by go_num, ⟨below_six HBD.out (Nat.le_refl _)⟩, ⟨by rw [HGN.out]; exact ⟨⟨⟨b0, e0, b1, e1, b2, e2, b3, e3, b4, e4, b5, e5⟩, six_put _ _ _ _ _ _ HNQ.out, HSN.out.up (hid_six (by simp))⟩⟩⟩⟩
            case measure => simp [intOf]; omega
        · obtain rfl : j = went.length := by omega
          have he : goS S (went.take went.length) = M := by rw [List.take_length]; exact HW0.out.go
          rw [he] at HNQ HSQ
          have HSM := Aside0.mk (same_calls M q p2 wr (HSQ.out.up (hid_up _ _)) (HM.out.below HBJ.out) HMB.out)
          replace HA := Aside0.mk (blk_below HA.out HBJ.out)
          clear he
          obtain ⟨q0, q1, q2, q3, q4, q5⟩ := six_cells HNQ.out
          obtain ⟨z0, z1, z2, z3, z4, z5⟩ := six_cells HA.out
          go_wp2_with (go_at_call 12; refine HSM.out.mono ?_; rintro e wE ⟨rfl, hb⟩; have HBE := Aside0.mk hb; clear hb)
          go_ret
          exact ⟨rfl, below_then HBW.out HBW.out.size (HBJ.out.trans (HBE.out.mono HBJ.out.size))⟩
end Go.Proofs.Ythnimpbcfegmjaa.Own

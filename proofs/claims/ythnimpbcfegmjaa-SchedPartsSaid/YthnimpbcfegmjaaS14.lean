/-
  sched.Run, walked by hand.
-/
import Derived.Test.YthnimpbcfegmjaaS13
namespace Go.Proofs.Ythnimpbcfegmjaa.Own
open Go.RowKit Go.Proofs.YthnimpbcfegmjaaW.PrintWords Go.Proofs.YthnimpbcfegmjaaW.PrintLast Go.Proofs.YthnimpbcfegmjaaW.PrintMore Go.Proofs.Ythnimpbcfegmjaa.P Go.Proofs.Ythnimpbcfegmjaa.Model
set_option linter.unusedVariables false
set_option linter.unusedSimpArgs false

def xRun (s : Syst) (l : List Int) : Syst × List Int := if rightB s = true then runS s l else (Syst.none, [])
def RunP (P : Nat → Bool) (r : Syst × List Int) (c : Int) (w : World) (e : Ending) (w' : World) : Prop := ∃ p v, e = .returned (.tuple #[.agg (sysA r.1 p), v, .int .i64 c]) ∧ SysC (hid P w') r.1 p ∧ RowI w' w.heap.size v r.2 ∧ Below w.heap.size w w'
/-- The loop's world: the system in the box at g; the row v lies elsewhere. -/
structure InBox (P : Nat → Bool) (g : Nat) (v : Value) (W : World) (s : Syst) : Prop where
  ex : ∃ Q p, (∀ k, P k = true → Q k = true) ∧ Q g = true ∧ Q (g + 1) = true ∧ (∀ r, v.ownBlock = some r → Q r = true) ∧ (∀ k, Q k = true → k < W.heap.size) ∧ W.heap[g]? = some (.cells (sysA s p) 26 (0, 0)) ∧ SysC (hid Q W) s p
section
variable {w W : World} {b g : Nat} {v0 v1 v2 v3 v4 v5 : Value}
theorem six_cells {x0 x1 x2 x3 x4 x5 : Value} (h : W.heap[g]? = some (.cells #[x0, x1, x2, x3, x4, x5] 26 (0, 0))) : W.cell? ⟨g, 0, none⟩ = some x0 ∧ W.cell? ⟨g, 1, none⟩ = some x1 ∧ W.cell? ⟨g, 2, none⟩ = some x2 ∧ W.cell? ⟨g, 3, none⟩ = some x3 ∧ W.cell? ⟨g, 4, none⟩ = some x4 ∧ W.cell? ⟨g, 5, none⟩ = some x5 :=
  ⟨blk_cell h 0, blk_cell h 1, blk_cell h 2, blk_cell h 3, blk_cell h 4, blk_cell h 5⟩
theorem six_frozen {x0 x1 x2 x3 x4 x5 : Value} (h : W.heap[g]? = some (.cells #[x0, x1, x2, x3, x4, x5] 26 (0, 0))) : W.frozen? ⟨g, 0, none⟩ = false ∧ W.frozen? ⟨g, 1, none⟩ = false ∧ W.frozen? ⟨g, 2, none⟩ = false ∧ W.frozen? ⟨g, 3, none⟩ = false ∧ W.frozen? ⟨g, 4, none⟩ = false ∧ W.frozen? ⟨g, 5, none⟩ = false :=
  ⟨blk_frozen h 0, blk_frozen h 1, blk_frozen h 2, blk_frozen h 3, blk_frozen h 4, blk_frozen h 5⟩
theorem six_size : ((((((W.setCell ⟨g, 0, none⟩ v0).setCell ⟨g, 1, none⟩ v1).setCell ⟨g, 2, none⟩ v2).setCell ⟨g, 3, none⟩ v3).setCell ⟨g, 4, none⟩ v4).setCell ⟨g, 5, none⟩ v5).heap.size = W.heap.size := by simp
theorem below_six (h : Below b w W) (hg : b ≤ g) : Below b w ((((((W.setCell ⟨g, 0, none⟩ v0).setCell ⟨g, 1, none⟩ v1).setCell ⟨g, 2, none⟩ v2).setCell ⟨g, 3, none⟩ v3).setCell ⟨g, 4, none⟩ v4).setCell ⟨g, 5, none⟩ v5) := below_put (k := 5) (below_put (k := 4) (below_put (k := 3) (below_put (k := 2) (below_put (k := 1) (below_put (k := 0) (h) hg _) hg _) hg _) hg _) hg _) hg _
theorem row_six {n c size : Nat} {e : TypeId} {A : Option Addr} {xs : List Value} (h : W.ownsRow b e size (.slice A n c) n xs) (hg : g < b) : ((((((W.setCell ⟨g, 0, none⟩ v0).setCell ⟨g, 1, none⟩ v1).setCell ⟨g, 2, none⟩ v2).setCell ⟨g, 3, none⟩ v3).setCell ⟨g, 4, none⟩ v4).setCell ⟨g, 5, none⟩ v5).ownsRow b e size (.slice A n c) n xs := own_low (own_low (own_low (own_low (own_low (own_low (h) (p := ⟨g, 0, none⟩) hg _) (p := ⟨g, 1, none⟩) hg _) (p := ⟨g, 2, none⟩) hg _) (p := ⟨g, 3, none⟩) hg _) (p := ⟨g, 4, none⟩) hg _) (p := ⟨g, 5, none⟩) hg _
theorem blk_six_far {k : Nat} {o : Obj} (h : W.heap[k]? = some o) (hk : k ≠ g) : ((((((W.setCell ⟨g, 0, none⟩ v0).setCell ⟨g, 1, none⟩ v1).setCell ⟨g, 2, none⟩ v2).setCell ⟨g, 3, none⟩ v3).setCell ⟨g, 4, none⟩ v4).setCell ⟨g, 5, none⟩ v5).heap[k]? = some o := by
  rw [Below.heap_setCell _ _ _ _ hk, Below.heap_setCell _ _ _ _ hk, Below.heap_setCell _ _ _ _ hk, Below.heap_setCell _ _ _ _ hk, Below.heap_setCell _ _ _ _ hk, Below.heap_setCell _ _ _ _ hk]
  exact h
theorem hid_six {Q : Nat → Bool} (hg : Q g = true) : Up (hid Q W) (hid Q ((((((W.setCell ⟨g, 0, none⟩ v0).setCell ⟨g, 1, none⟩ v1).setCell ⟨g, 2, none⟩ v2).setCell ⟨g, 3, none⟩ v3).setCell ⟨g, 4, none⟩ v4).setCell ⟨g, 5, none⟩ v5)) :=
  (up_hid_put (q := ⟨g, 0, none⟩) hg _).trans ((up_hid_put (q := ⟨g, 1, none⟩) hg _).trans ((up_hid_put (q := ⟨g, 2, none⟩) hg _).trans ((up_hid_put (q := ⟨g, 3, none⟩) hg _).trans ((up_hid_put (q := ⟨g, 4, none⟩) hg _).trans (up_hid_put (q := ⟨g, 5, none⟩) hg _)))))
theorem rowI_six {v : Value} {xs : List Int} (h : RowI W b v xs) (hg : g < b) : RowI ((((((W.setCell ⟨g, 0, none⟩ v0).setCell ⟨g, 1, none⟩ v1).setCell ⟨g, 2, none⟩ v2).setCell ⟨g, 3, none⟩ v3).setCell ⟨g, 4, none⟩ v4).setCell ⟨g, 5, none⟩ v5) b v xs := by
  obtain ⟨A, c, rfl⟩ := row_slice h
  exact row_six h hg
end
theorem hid_less {P Q : Nat → Bool} (w : World) (h : ∀ k, P k = true → Q k = true) : Up (hid Q w) (hid P w) := up_hid (Below.refl _ _) (fun k _ hk => h k hk)
theorem up_hid_grown {Q Q' : Nat → Bool} {w w1 : World} {row : Option Nat} (hb : w.grownBy w1 row) (hr : ∀ r, row = some r → Q r = true) (hq : ∀ k, k < w.heap.size → Q' k = true → Q k = true) : Up (hid Q w) (hid Q' w1) := by
  refine ⟨fun {a v} h => ?_, by rw [hid_size, hid_size]; exact hb.size⟩
  obtain ⟨h1, h2⟩ := hid_cell h
  have hlt := World.block_lt_of_cell? w a h2
  refine hid_on ?_ ?_
  · cases hq2 : Q' a.block with
    | false => rfl
    | true =>
      have := hq _ hlt hq2
      rw [h1] at this
      cases this
  · refine (World.cell?_of_block (w := w) (hb.block _ hlt (fun e => ?_))).trans h2
    rw [hr _ e.symm] at h1
    cases h1
/-- A row is appended to. -/
theorem InBox.grown {P : Nat → Bool} {g : Nat} {v v' : Value} {W W1 : World} {Q : Nat → Bool} {s : Syst} {p : Ad} (hP : ∀ k, P k = true → Q k = true) (hg : Q g = true) (hg1 : Q (g + 1) = true) (hv : ∀ r, v.ownBlock = some r → Q r = true) (hlt : ∀ k, Q k = true → k < W.heap.size) (hS : SysC (hid Q W) s p)
    (hb : W.grownBy W1 v.ownBlock) (hat : v'.ownBlock = v.ownBlock ∨ ∃ b, v'.ownBlock = some b ∧ W.heap.size ≤ b) (hv1 : ∀ r, v'.ownBlock = some r → r < W1.heap.size)
    {x0 x1 x2 x3 x4 x5 : Value} (hG : W1.heap[g]? = some (.cells #[x0, x1, x2, x3, x4, x5] 26 (0, 0))) :
    InBox P g v' ((((((W1.setCell ⟨g, 0, none⟩ (.slice p.a0 s.th.length p.c0)).setCell ⟨g, 1, none⟩ (.slice p.a1 s.at_.length p.c1)).setCell ⟨g, 2, none⟩ (.slice p.a2 s.su.length p.c2)).setCell ⟨g, 3, none⟩ (.slice p.a3 s.lo.length p.c3)).setCell ⟨g, 4, none⟩ (.slice p.a4 s.ce.length p.c4)).setCell ⟨g, 5, none⟩ (.slice p.a5 s.ch.length p.c5)) s := by
  refine ⟨⟨fun k => Q k || decide (v'.ownBlock = some k), p, fun k hk => by simp [hP k hk], by simp [hg], by simp [hg1], fun r hr => by simp [hr], fun k hk => ?_, six_put _ _ _ _ _ _ hG, ?_⟩⟩
  · rw [six_size]
    simp only [Bool.or_eq_true, decide_eq_true_eq] at hk
    rcases hk with hk | hk
    · exact Nat.lt_of_lt_of_le (hlt k hk) hb.size
    · exact hv1 k hk
  · refine hS.up ((up_hid_grown (Q' := fun k => Q k || decide (v'.ownBlock = some k)) hb hv (fun k hk h => ?_)).trans (hid_six (by simp [hg])))
    simp only [Bool.or_eq_true, decide_eq_true_eq] at h
    rcases h with h | h
    · exact h
    · rcases hat with h2 | ⟨b, h2, h3⟩
      · exact hv k (h2.symm.trans h)
      · rw [h2] at h
        injection h with h
        omega
theorem rowI_lt {w : World} {b : Nat} {v : Value} {xs : List Int} (h : RowI w b v xs) : ∀ r, v.ownBlock = some r → r < w.heap.size := by
  intro r hr
  obtain ⟨A, c, rfl⟩ := row_slice h
  rcases h.2 with ⟨h1, _⟩ | ⟨g, cap, cur, h1, h2, h3, _⟩
  · injection h1 with h1
    subst h1
    simp [Value.ownBlock] at hr
  · injection h1 with h1
    subst h1
    simp [Value.ownBlock] at hr
    subst hr
    exact blk_lt h3
theorem alloc_size (w : World) (o : Obj) : (w.alloc o).heap.size = w.heap.size + 1 := by simp
set_option maxRecDepth 100000 in
set_option maxHeartbeats 8000000 in
theorem xRun_calls (P : Nat → Bool) (s : Syst) (p : Ad) (A : Option Addr) (c : Nat) (l : List Int) (w : World) (hC0 : SysC (hid P w) s p) (hP : ∀ k, P k = true → k < w.heap.size) (hbd : Bd s) (hl : CI w A l) (hl1 : l.length ≤ 1000) : Calls Try.prog 9 #[.agg (sysA s p), .slice A l.length c] w (RunP P (xRun s l) (eno (rightB s)) w) := by
  have hC := hC0.up (hid_up P w)
  have HP := Aside0.mk hP
  have hB1 : Below w.heap.size w (w.alloc (.cells (sysA s p) 26)) := (Below.refl _ _).alloc (Nat.le_refl _) _
  have hB2 := hB1.alloc hB1.size (.cells #[.slice none 0 0, .slice none 0 0, .slice none 0 0, .slice none 0 0, .slice none 0 0, .slice none 0 0] 26)
  have HB := Aside0.mk hB2
  have HR := Aside0.mk (right_calls s p _ (hC.below hB2) hbd)
  have HG : Aside0 (((w.alloc (.cells (sysA s p) 26)).alloc (.cells #[.slice none 0 0, .slice none 0 0, .slice none 0 0, .slice none 0 0, .slice none 0 0, .slice none 0 0] 26)).heap[w.heap.size]? = some (.cells (sysA s p) 26 (0, 0))) := ⟨blk_alloc (blk_new w _) _⟩
  have HZ : Aside0 (((w.alloc (.cells (sysA s p) 26)).alloc (.cells #[.slice none 0 0, .slice none 0 0, .slice none 0 0, .slice none 0 0, .slice none 0 0, .slice none 0 0] 26)).heap[w.heap.size + 1]? = some (.cells #[.slice none 0 0, .slice none 0 0, .slice none 0 0, .slice none 0 0, .slice none 0 0, .slice none 0 0] 26 (0, 0))) := ⟨by
    have h1 := blk_new (w.alloc (.cells (sysA s p) 26)) (.cells #[.slice none 0 0, .slice none 0 0, .slice none 0 0, .slice none 0 0, .slice none 0 0, .slice none 0 0] 26)
    have hsz : (w.alloc (.cells (sysA s p) 26)).heap.size = w.heap.size + 1 := by simp
    rw [hsz] at h1
    exact h1⟩
  have HL := Aside0.mk hl
  have HS : Aside0 (rightB s = true → Shp s) := ⟨right_shp⟩
  cases hr : rightB s with
  | false =>
    have e : xRun s l = (Syst.none, []) := by unfold xRun; rw [hr]; rfl
    have e2 : eno false = 1 := rfl
    rw [e, e2]
    have HRR := Aside0.mk hr
    clear hr e e2 hC0 hP hl hbd hC hB1 hB2
    obtain ⟨a0, c0, a1, c1, a2, c2, a3, c3, a4, c4, a5, c5⟩ := p
    unfold sysA at *
    dsimp only at *
    as_aux_lemma =>
    go_enter Try.func9, Try.ntmps9
    go_wp2_with (go_at_call 20; refine HR.out.mono ?_; rintro e w2 ⟨rfl, hb⟩; rw [HRR.out]; replace HG := Aside0.mk (blk_below HG.out hb); replace HZ := Aside0.mk (blk_below HZ.out hb); replace HB := Aside0.mk (HB.out.trans (hb.mono HB.out.size)); clear hb; obtain ⟨z0, z1, z2, z3, z4, z5⟩ := six_cells HZ.out; obtain ⟨y0, y1, y2, y3, y4, y5⟩ := six_frozen HZ.out)
    refine bodyPost_ret (results_ctt rfl _ _ (w.heap.size + 1) 26 _ (0, 0) _ rfl (six_put _ _ _ _ _ _ HZ.out) Try.underlying26 rfl (by kernel_rfl)) rfl ?_
    exact ⟨Ad.none, _, rfl, SysC_none _, World.ownsRow_nil _ _ _ _, six_below HB.out _ _ _ _ _ _⟩
  | true =>
    have e : xRun s l = runS s l := by unfold xRun; rw [hr]; rfl
    have e2 : eno true = 0 := rfl
    rw [e, e2]
    have HRR := Aside0.mk hr
    have HSH := Aside0.mk (HS.out hr)
    have HCb : Aside0 (∀ W, Below w.heap.size w W → w.heap.size + 1 < W.heap.size → W.heap[w.heap.size]? = some (.cells (sysA s p) 26 (0, 0)) → InBox P w.heap.size (.slice none 0 0) W s) := ⟨fun W h1 h3 h2 => ⟨⟨fun k => P k || (k == w.heap.size || k == w.heap.size + 1), p, fun k hk => by simp [hk], by simp, by simp, fun r hr => by simp [Value.ownBlock] at hr, fun k hk => by
      simp only [Bool.or_eq_true, beq_iff_eq] at hk
      rcases hk with hk | hk | hk
      · exact Nat.lt_of_lt_of_le (HP.out k hk) h1.size
      · omega
      · omega, h2, hC0.up (up_hid h1 (fun k hk h => by
      simp only [Bool.or_eq_true, beq_iff_eq] at h
      rcases h with h | h | h
      · exact h
      · omega
      · omega))⟩⟩⟩
    clear hr e e2 HS hC0 hP hl hbd hC hB1 hB2
    obtain ⟨a0, c0, a1, c1, a2, c2, a3, c3, a4, c4, a5, c5⟩ := p
    unfold sysA at *
    dsimp only at *
    go_enter Try.func9, Try.ntmps9
    go_wp2_with (go_at_call 20; refine HR.out.mono ?_; rintro e w2 ⟨rfl, hb⟩; rw [HRR.out]; replace HG := Aside0.mk (blk_below HG.out hb); replace HZ := Aside0.mk (blk_below HZ.out hb); replace HB := Aside0.mk (HB.out.trans (hb.mono HB.out.size)); clear hb)
    go_loopw [7, 18] (fun v7 v18 W => ∃ k : Nat, k ≤ l.length ∧ v18 = .int .i64 k ∧ Aside0 (RowI W (w.heap.size + 2) v7 (runTo s l k).2) ∧ Aside0 (Below w.heap.size w W) ∧ Aside0 (InBox P w.heap.size v7 W (runTo s l k).1) ∧ Aside0 (W.heap[w.heap.size + 1]? = some (.cells #[.slice none 0 0, .slice none 0 0, .slice none 0 0, .slice none 0 0, .slice none 0 0, .slice none 0 0] 26 (0, 0)))) (fun _ v18 _ => l.length - (intOf v18).toNat)
    case atStart => exact ⟨0, Nat.zero_le _, rfl, ⟨World.ownsRow_nil _ _ _ _⟩, HB, ⟨HCb.out _ HB.out (blk_lt HZ.out) HG.out⟩, HZ⟩
    case round => as_aux_lemma =>
      clear HB HG HZ HCb HR
      obtain ⟨k, hk, rfl, HR, HB, HI, HZ⟩ := hrel
      obtain ⟨⟨Q, p, h1, h2, h3, h4, h5, h6, h7⟩⟩ := HI
      have HQ1 := Aside0.mk h1
      have HQ2 := Aside0.mk h2
      have HQ3 := Aside0.mk h3
      have HQ4 := Aside0.mk h4
      have HQ5 := Aside0.mk h5
      have HG := Aside0.mk h6
      have HSYS := Aside0.mk h7
      clear h1 h2 h3 h4 h5 h6 h7
      have HSK := Aside0.mk (runTo_shp HSH.out l k)
      have hge : Aside0 (w.heap.size + 2 ≤ wr.heap.size) := ⟨blk_lt HZ.out⟩
      by_cases hlt : k < l.length
      · obtain ⟨q, hq⟩ : ∃ q, l[k]? = some q := ⟨_, List.getElem?_eq_getElem hlt⟩
        obtain ⟨ad, rfl, t0⟩ := Kd.at_int (Kd.C_below HL.out HB.out) (k : Int) (by omega) (by omega)
        rw [rdI hq, Int.toNat_natCast] at t0
        have HQ := Aside0.mk (runTo_succ (s := s) hq)
        have HSt := Aside0.mk (runTo_stop (s := s) (l := l) (k := k))
        have HLE := Aside0.mk (runTo_len s l k)
        clear hq
        generalize runTo s l k = r at *
        obtain ⟨s1, went⟩ := r
        dsimp only at *
        by_cases he : enL s1 = []
        · have HEN : Aside0 (∀ (p : Ad) (W : World), SysC W s1 p → Calls Try.prog 32 #[.agg (sysA s1 p)] W (fun e w' => ∃ B d, e = .returned (.slice B 0 d) ∧ Below W.heap.size W w')) := ⟨fun p W h => (enabled_calls s1 p W h HSK.out.1).mono (by
            rintro e w' ⟨v, rfl, hrow, hb⟩
            rw [he] at hrow
            obtain ⟨B, d, rfl⟩ := row_slice hrow
            exact ⟨B, d, rfl, hb⟩)⟩
          have HRS := Aside0.mk (HSt.out he)
          have HU := Aside0.mk (hid_up Q wr)
          clear he HSt HQ
          obtain ⟨a0, c0, a1, c1, a2, c2, a3, c3, a4, c4, a5, c5⟩ := p
          unfold sysA at HG HEN
          dsimp only at HG HEN
          obtain ⟨q0, q1, q2, q3, q4, q5⟩ := six_cells HG.out; obtain ⟨x0, x1, x2, x3, x4, x5⟩ := six_frozen HG.out
          go_wp2_with (go_at_call 32; refine (HEN.out ⟨a0, c0, a1, c1, a2, c2, a3, c3, a4, c4, a5, c5⟩ _ (HSYS.out.up HU.out)).mono ?_; rintro e w3 ⟨B, d, rfl, hb⟩; replace HG := Aside0.mk (blk_below HG.out hb); replace HZ := Aside0.mk (blk_below HZ.out hb); replace HR := Aside0.mk (below_row HR.out hb); replace HSYS := Aside0.mk (HSYS.out.up (up_hid hb (fun _ _ h => h))); replace HB := Aside0.mk (HB.out.trans (hb.mono HB.out.size)); clear q0 q1 q2 q3 q4 q5 x0 x1 x2 x3 x4 x5 hb; obtain ⟨q0, q1, q2, q3, q4, q5⟩ := six_cells HG.out; obtain ⟨x0, x1, x2, x3, x4, x5⟩ := six_frozen HG.out; obtain ⟨z0, z1, z2, z3, z4, z5⟩ := six_cells HZ.out; obtain ⟨y0, y1, y2, y3, y4, y5⟩ := six_frozen HZ.out)
          refine bodyPost_ret (results_ctt rfl _ _ (w.heap.size + 1) 26 _ (0, 0) _ rfl (six_put _ _ _ _ _ _ HZ.out) Try.underlying26 rfl (by kernel_rfl)) rfl ?_
          rw [HRS.out]
          exact ⟨⟨a0, c0, a1, c1, a2, c2, a3, c3, a4, c4, a5, c5⟩, _, rfl, HSYS.out.up ((hid_six HQ3.out).trans (hid_less _ HQ1.out)), own_weaken (rowI_six HR.out (Nat.lt_succ_self _)) (by omega), six_below HB.out _ _ _ _ _ _⟩
        · obtain ⟨pm1, pm2, pm3⟩ := pickT_mem q he
          obtain ⟨pc1, pc2⟩ := pickT_can q he
          obtain ⟨i, hi, hci⟩ := canB_some pc2
          have HPG := Aside0.mk (HQ.out.trans (pick1_go (r := (s1, went)) he q))
          have HST : Aside0 (∀ W, Below wr.heap.size wr W → Calls Try.prog 33 #[.agg (sysA s1 p), .int .i64 (pickT s1 q)] W (StepP (hid Q wr) (stepN s1 (pickT s1 q)) W)) := ⟨fun W h => by
            rw [stepN_eq hi]
            exact step_calls (hid Q wr) s1 p (pickT s1 q) i W HSYS.out ((hid_up Q wr).trans (up_below h)) HSK.out.1 pc1 hi hci⟩
          have HEN : Aside0 (∀ W, SysC W s1 p → Calls Try.prog 32 #[.agg (sysA s1 p)] W (fun e w' => ∃ g d, e = .returned (.slice (some ⟨g, 0, none⟩) (enL s1).length d) ∧ w'.cell? ⟨g, (pickI q (enL s1).length).toNat, none⟩ = some (.int .i64 (pickT s1 q)) ∧ Below W.heap.size W w')) := ⟨fun W h => (enabled_calls s1 p W h HSK.out.1).mono (by
            rintro e w' ⟨v, rfl, hrow, hb⟩
            obtain ⟨B, d, rfl⟩ := row_slice hrow
            obtain ⟨g, rfl, _, hcell, _⟩ := rowI_at hrow (pickI q (enL s1).length).toNat (pickT s1 q) (by rw [← pm2, List.getD_eq_getElem?_getD, List.getElem?_eq_getElem pm3]; rfl)
            exact ⟨g, d, rfl, hcell, hb⟩)⟩
          have hn8 : (enL s1).length ≤ s1.th.length := by
            unfold enL
            rw [List.length_map]
            exact Nat.le_trans (List.length_filter_le _ _) (by simp)
          have hn9 := HSK.out.1.n
          have hnp : 0 < (enL s1).length := List.length_pos_iff.2 he
          generalize hne : (enL s1).length = n at *
          have hpi := pickI_lt (q := q) (n := n) (by omega)
          obtain ⟨j, hj⟩ : ∃ j : Nat, pickI q n = j := ⟨(pickI q n).toNat, by omega⟩
          rw [hj, Int.toNat_natCast] at HEN
          have hjn : j < n := by omega
          have dk : ((n : Int) == 0) = false := beq_eq_false_iff_ne.mpr (by omega)
          have hjw := pick_eq hnp (by omega) hj
          have HHE := Aside0.mk he
          have HG0 := HG
          have HZ0 := HZ
          clear he pm1 pm2 pm3 pc1 pc2 hi hci HSt hj hpi hne HQ hn8 hn9 hnp
          dsimp only at HPG
          generalize pickT s1 q = t at *
          generalize stepN s1 t = s2 at *
          obtain ⟨a0, c0, a1, c1, a2, c2, a3, c3, a4, c4, a5, c5⟩ := p
          unfold sysA at HG HG0 HEN HST
          dsimp only at HG HG0 HEN HST
          obtain ⟨q0, q1, q2, q3, q4, q5⟩ := six_cells HG.out; obtain ⟨x0, x1, x2, x3, x4, x5⟩ := six_frozen HG.out
          go_wp2_with (first
            | (go_at_call 32; refine (HEN.out _ (HSYS.out.up (hid_up Q wr))).mono ?_; rintro e w3 ⟨gB, d, rfl, u0, hb⟩; replace HG := Aside0.mk (blk_below HG.out hb); replace HR := Aside0.mk (below_row HR.out hb); have HB3 := Aside0.mk hb; clear q0 q1 q2 q3 q4 q5 x0 x1 x2 x3 x4 x5 hb; obtain ⟨q0, q1, q2, q3, q4, q5⟩ := six_cells HG.out; obtain ⟨x0, x1, x2, x3, x4, x5⟩ := six_frozen HG.out)
            | (go_at_call 33; refine (HST.out _ HB3.out).mono ?_; rintro e w4 ⟨p4, b4, us4, rfl, hfin, hb4, hb⟩; replace HR := Aside0.mk (below_row HR.out hb); have HB4 := Aside0.mk (HB3.out.trans (hb.mono HB3.out.size)); have HS4 := Aside0.mk (hfin.hid (fun k hk => Nat.lt_of_lt_of_le (HQ5.out k hk) (Nat.le_trans HB3.out.size hb4)) HB4.out); clear q0 q1 q2 q3 q4 q5 x0 x1 x2 x3 x4 x5 hb hb4 hfin; dsimp only [sysA])
            | (at_builtin; refine hold ?_))
          refine ⟨?_⟩
          refine app_ints rfl _ _ rfl wr (w.heap.size + 2) _ went [(t : Int)] (some ⟨w4.heap.size, 0, none⟩) 1 1 rfl rfl (below_row HR.out ((Below.refl _ _).alloc (Nat.le_refl _) _)) (one_CI (blk_new w4 _)) ((HB4.out.mono hge.out).alloc (Nat.le_trans hge.out HB4.out.size) _) (by rw [alloc_size]; exact Nat.le_trans hge.out (Nat.le_trans HB4.out.size (Nat.le_succ _))) (by have := HLE.out; simp; omega) ?_
          intro v1 w5 hr hb hgr hat
          have HG5 := Aside0.mk (blk_low hb (Nat.lt_add_of_pos_right (by decide)) HG0.out)
          have HZ5 := Aside0.mk (blk_low hb (Nat.lt_succ_self _) HZ0.out)
          have HIB := Aside0.mk (InBox.grown HQ1.out HQ2.out HQ3.out HQ4.out (fun k hk => by rw [alloc_size]; exact Nat.lt_of_lt_of_le (HQ5.out k hk) (Nat.le_trans HB4.out.size (Nat.le_succ _))) (HS4.out.up (up_hid ((Below.refl _ _).alloc (Nat.le_refl _) _) (fun _ _ h => h))) hgr hat (rowI_lt hr) HG5.out)
          have HR5 := Aside0.mk hr
          have HB5 := Aside0.mk (HB.out.trans (hb.mono (Nat.le_add_right _ _)))
          clear hr hb hgr hat HG HG0 HZ HZ0
          obtain ⟨q0, q1, q2, q3, q4, q5⟩ := six_cells HG5.out
          obtain ⟨x0, x1, x2, x3, x4, x5⟩ := six_frozen HG5.out
          go_wp2
          go_roundw
          case rel => exact ⟨k + 1, hlt, by go_num, ⟨by rw [HPG.out]; exact rowI_six HR5.out (Nat.lt_add_of_pos_right (by decide))⟩, ⟨below_six HB5.out (Nat.le_refl _)⟩, ⟨by rw [HPG.out]; exact HIB.out⟩, ⟨blk_six_far HZ5.out (Nat.succ_ne_self _)⟩⟩
          case measure => simp [intOf]; omega
      · obtain rfl : k = l.length := by omega
        rw [runTo_all] at *
        obtain ⟨a0, c0, a1, c1, a2, c2, a3, c3, a4, c4, a5, c5⟩ := p
        generalize runS s l = r at *
        obtain ⟨s1, went⟩ := r
        unfold sysA at HG
        dsimp only at *
        obtain ⟨q0, q1, q2, q3, q4, q5⟩ := six_cells HG.out; obtain ⟨x0, x1, x2, x3, x4, x5⟩ := six_frozen HG.out
        obtain ⟨z0, z1, z2, z3, z4, z5⟩ := six_cells HZ.out; obtain ⟨y0, y1, y2, y3, y4, y5⟩ := six_frozen HZ.out
        go_wp2
        refine bodyPost_ret (results_ctt rfl _ _ (w.heap.size + 1) 26 _ (0, 0) _ rfl (six_put _ _ _ _ _ _ HZ.out) Try.underlying26 rfl (by kernel_rfl)) rfl ?_
        exact ⟨⟨a0, c0, a1, c1, a2, c2, a3, c3, a4, c4, a5, c5⟩, _, rfl, HSYS.out.up ((hid_six HQ3.out).trans (hid_less _ HQ1.out)), own_weaken (rowI_six HR.out (Nat.lt_succ_self _)) (by omega), six_below HB.out _ _ _ _ _ _⟩
end Go.Proofs.Ythnimpbcfegmjaa.Own

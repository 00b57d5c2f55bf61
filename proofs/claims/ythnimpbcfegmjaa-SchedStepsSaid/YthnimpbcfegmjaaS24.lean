/-
  The reference's Run, walked by hand: it answers the model's system behind the picks, and who went on.
-/
import Derived.Test.YthnimpbcfegmjaaS21
import Derived.Test.YthnimpbcfegmjaaPl4
import Derived.Test.YthnimpbcfegmjaaA2
namespace Go.Proofs.Ythnimpbcfegmjaa.Own
open Go.RowKit Go.Proofs.YthnimpbcfegmjaaW.PrintWords Go.Proofs.YthnimpbcfegmjaaW.PrintLast Go.Proofs.YthnimpbcfegmjaaW.PrintMore Go.Proofs.Ythnimpbcfegmjaa.P Go.Proofs.Ythnimpbcfegmjaa.Model
set_option linter.unusedVariables false
set_option linter.unusedSimpArgs false

theorem refEn_calls (s : Syst) (p : Ad) (W : World) (h : SysC W s p) (hS : Shp s) : Calls Try.prog 25 #[.agg (sysA s p)] W (fun e w' => ∃ A c, e = .returned (.slice A (enL s).length c) ∧ (enL s).length ≤ c ∧ CI w' A (enL s) ∧ Below W.heap.size W w') :=
  (downpourref20_Enabled.calls 100 p.a0 p.c0 s.th p.a1 p.c1 s.at_ p.a2 p.c2 s.su p.a3 p.c3 s.lo p.a4 p.c4 s.ce p.a5 p.c5 s.ch (enL s) W h.r0 h.h0 h.r1 h.h1 h.r2 h.h2 h.r3 h.h3 h.r4 h.h4 h.r5 h.h5 (en_f s hS)).mono (by
    rintro e w' ⟨v0, rfl, h1, hb⟩
    obtain ⟨A, c, rfl, k1, r1⟩ := Kd.R_reads h1
    exact ⟨A, c, rfl, k1, r1, hb⟩)
def RunR (P : Nat → Bool) (r : Syst × List Int) (w : World) (e : Ending) (w' : World) : Prop := ∃ p A c, e = .returned (.agg #[.slice p.a0 r.1.th.length p.c0, .slice p.a1 r.1.at_.length p.c1, .slice p.a2 r.1.su.length p.c2, .slice p.a3 r.1.lo.length p.c3, .slice p.a4 r.1.ce.length p.c4, .slice p.a5 r.1.ch.length p.c5, .slice A r.2.length c]) ∧ SysC (hid P w') r.1 p ∧ RowI w' w.heap.size (.slice A r.2.length c) r.2 ∧ Below w.heap.size w w'
/-- The loop's world: the system and who went in the box at g; the answer's place at h. -/
structure InR (P : Nat → Bool) (g h b : Nat) (W : World) (r : Syst × List Int) : Prop where
  ex : ∃ Q p A c, (∀ k, P k = true → Q k = true) ∧ Q g = true ∧ Q h = true ∧ (∀ x, (Value.slice A r.2.length c).ownBlock = some x → Q x = true) ∧ (∀ k, Q k = true → k < W.heap.size) ∧ W.heap[g]? = some (.cells #[.slice p.a0 r.1.th.length p.c0, .slice p.a1 r.1.at_.length p.c1, .slice p.a2 r.1.su.length p.c2, .slice p.a3 r.1.lo.length p.c3, .slice p.a4 r.1.ce.length p.c4, .slice p.a5 r.1.ch.length p.c5, .slice A r.2.length c] 35 (0, 0)) ∧ SysC (hid Q W) r.1 p ∧ RowI W b (.slice A r.2.length c) r.2
section
variable {w W : World} {b g : Nat} {v0 v1 v2 v3 v4 v5 v6 x0 x1 x2 x3 x4 x5 x6 : Value}
theorem sev_cells (h : W.heap[g]? = some (.cells #[x0, x1, x2, x3, x4, x5, x6] 35 (0, 0))) : W.cell? ⟨g, 0, none⟩ = some x0 ∧ W.cell? ⟨g, 1, none⟩ = some x1 ∧ W.cell? ⟨g, 2, none⟩ = some x2 ∧ W.cell? ⟨g, 3, none⟩ = some x3 ∧ W.cell? ⟨g, 4, none⟩ = some x4 ∧ W.cell? ⟨g, 5, none⟩ = some x5 ∧ W.cell? ⟨g, 6, none⟩ = some x6 :=
  ⟨blk_cell h 0, blk_cell h 1, blk_cell h 2, blk_cell h 3, blk_cell h 4, blk_cell h 5, blk_cell h 6⟩
theorem sev_frozen (h : W.heap[g]? = some (.cells #[x0, x1, x2, x3, x4, x5, x6] 35 (0, 0))) : W.frozen? ⟨g, 0, none⟩ = false ∧ W.frozen? ⟨g, 1, none⟩ = false ∧ W.frozen? ⟨g, 2, none⟩ = false ∧ W.frozen? ⟨g, 3, none⟩ = false ∧ W.frozen? ⟨g, 4, none⟩ = false ∧ W.frozen? ⟨g, 5, none⟩ = false ∧ W.frozen? ⟨g, 6, none⟩ = false :=
  ⟨blk_frozen h 0, blk_frozen h 1, blk_frozen h 2, blk_frozen h 3, blk_frozen h 4, blk_frozen h 5, blk_frozen h 6⟩
theorem sev_put6 (v0 v1 v2 v3 v4 v5 : Value) (h : W.heap[g]? = some (.cells #[x0, x1, x2, x3, x4, x5, x6] 35 (0, 0))) : ((((((W.setCell ⟨g, 0, none⟩ v0).setCell ⟨g, 1, none⟩ v1).setCell ⟨g, 2, none⟩ v2).setCell ⟨g, 3, none⟩ v3).setCell ⟨g, 4, none⟩ v4).setCell ⟨g, 5, none⟩ v5).heap[g]? = some (.cells #[v0, v1, v2, v3, v4, v5, x6] 35 (0, 0)) :=
  blk_put (blk_put (blk_put (blk_put (blk_put (blk_put h 0 v0 rfl) 1 v1 rfl) 2 v2 rfl) 3 v3 rfl) 4 v4 rfl) 5 v5 rfl
theorem sev_put (v0 v1 v2 v3 v4 v5 v6 : Value) (h : W.heap[g]? = some (.cells #[x0, x1, x2, x3, x4, x5, x6] 35 (0, 0))) : ((((((((W.setCell ⟨g, 0, none⟩ v0).setCell ⟨g, 1, none⟩ v1).setCell ⟨g, 2, none⟩ v2).setCell ⟨g, 3, none⟩ v3).setCell ⟨g, 4, none⟩ v4).setCell ⟨g, 5, none⟩ v5)).setCell ⟨g, 6, none⟩ v6).heap[g]? = some (.cells #[v0, v1, v2, v3, v4, v5, v6] 35 (0, 0)) :=
  blk_put (sev_put6 v0 v1 v2 v3 v4 v5 h) 6 v6 rfl
theorem run_end {P Q : Nat → Bool} {s : Syst} {p : Ad} {A : Option Addr} {n c g2 : Nat} {l : List Int} (hn : l.length = n) (hS : SysC (hid Q W) s p) (hg : Q g = true) (hP : ∀ k, P k = true → Q k = true) (hr : RowI W g2 (.slice A n c) l) (hg2 : g < g2) (hb : Below b w W) (hbg : b ≤ g) :
    SysC (hid P ((((((((W.setCell ⟨g, 0, none⟩ v0).setCell ⟨g, 1, none⟩ v1).setCell ⟨g, 2, none⟩ v2).setCell ⟨g, 3, none⟩ v3).setCell ⟨g, 4, none⟩ v4).setCell ⟨g, 5, none⟩ v5)).setCell ⟨g, 6, none⟩ v6)) s p ∧ RowI ((((((((W.setCell ⟨g, 0, none⟩ v0).setCell ⟨g, 1, none⟩ v1).setCell ⟨g, 2, none⟩ v2).setCell ⟨g, 3, none⟩ v3).setCell ⟨g, 4, none⟩ v4).setCell ⟨g, 5, none⟩ v5)).setCell ⟨g, 6, none⟩ v6) b (.slice A n c) l ∧ Below b w ((((((((W.setCell ⟨g, 0, none⟩ v0).setCell ⟨g, 1, none⟩ v1).setCell ⟨g, 2, none⟩ v2).setCell ⟨g, 3, none⟩ v3).setCell ⟨g, 4, none⟩ v4).setCell ⟨g, 5, none⟩ v5)).setCell ⟨g, 6, none⟩ v6) := by
  subst hn
  refine ⟨hS.up (((hid_six hg).trans (up_hid_put (q := ⟨g, 6, none⟩) hg _)).trans (hid_less _ hP)), ?_, below_put (k := 6) (below_six hb hbg) hbg _⟩
  exact own_weaken (own_low (p := ⟨g, 6, none⟩) (rowI_six hr hg2) hg2 _) (by omega)
end
theorem InR.grown {P : Nat → Bool} {g h b : Nat} {A : Option Addr} {c : Nat} {v : Value} {W W1 : World} {Q : Nat → Bool} {s : Syst} {p : Ad} {l : List Int} (hP : ∀ k, P k = true → Q k = true) (hg : Q g = true) (hh : Q h = true) (hv : ∀ r, v.ownBlock = some r → Q r = true) (hlt : ∀ k, Q k = true → k < W.heap.size) (hS : SysC (hid Q W) s p)
    (hb : W.grownBy W1 v.ownBlock) (hat : (Value.slice A l.length c).ownBlock = v.ownBlock ∨ ∃ b, (Value.slice A l.length c).ownBlock = some b ∧ W.heap.size ≤ b) (hr : RowI W1 b (.slice A l.length c) l) (hgb : g < b) {x6 : Value} (hG : W1.heap[g]? = some (.cells #[.slice p.a0 s.th.length p.c0, .slice p.a1 s.at_.length p.c1, .slice p.a2 s.su.length p.c2, .slice p.a3 s.lo.length p.c3, .slice p.a4 s.ce.length p.c4, .slice p.a5 s.ch.length p.c5, x6] 35 (0, 0))) :
    InR P g h b (W1.setCell ⟨g, 6, none⟩ (.slice A l.length c)) (s, l) := by
  have hv1 := rowI_lt hr
  refine ⟨⟨fun k => Q k || decide ((Value.slice A l.length c).ownBlock = some k), p, A, c, fun k hk => by simp [hP k hk], by simp [hg], by simp [hh], fun r hr => by simp [hr], fun k hk => ?_, blk_put hG 6 _ rfl, ?_, own_low (p := ⟨g, 6, none⟩) hr hgb _⟩⟩
  · rw [setCell_size]
    simp only [Bool.or_eq_true, decide_eq_true_eq] at hk
    rcases hk with hk | hk
    · exact Nat.lt_of_lt_of_le (hlt k hk) hb.size
    · exact hv1 k hk
  · refine hS.up ((up_hid_grown (Q' := fun k => Q k || decide ((Value.slice A l.length c).ownBlock = some k)) hb hv (fun k hk h => ?_)).trans (up_hid_put (q := ⟨g, 6, none⟩) (by simp [hg]) _))
    simp only [Bool.or_eq_true, decide_eq_true_eq] at h
    rcases h with h | h
    · exact h
    · rcases hat with h2 | ⟨b, h2, h3⟩
      · exact hv k (h2.symm.trans h)
      · rw [h2] at h
        injection h with h
        omega
set_option maxRecDepth 100000 in
set_option maxHeartbeats 8000000 in
theorem refRun_calls (P : Nat → Bool) (s : Syst) (p : Ad) (A : Option Addr) (c : Nat) (l : List Int) (w : World) (hC0 : SysC (hid P w) s p) (hP : ∀ k, P k = true → k < w.heap.size) (hS : Shp s) (hl : CI w A l) (hl1 : l.length ≤ 1000) : Calls Try.prog 13 #[.agg (sysA s p), .slice A l.length c] w (RunR P (runS s l) w) := by
  have HP := Aside0.mk hP
  have hB1 : Below w.heap.size w (w.alloc (.cells (sysA s p) 26)) := (Below.refl _ _).alloc (Nat.le_refl _) _
  have hB2 := hB1.alloc hB1.size (.cells #[.slice none 0 0, .slice none 0 0, .slice none 0 0, .slice none 0 0, .slice none 0 0, .slice none 0 0, .slice none 0 0] 35)
  have hB3 := hB2.alloc hB2.size (.cells #[.slice p.a0 s.th.length p.c0, .slice p.a1 s.at_.length p.c1, .slice p.a2 s.su.length p.c2, .slice p.a3 s.lo.length p.c3, .slice p.a4 s.ce.length p.c4, .slice p.a5 s.ch.length p.c5, .slice none 0 0] 35)
  have HB := Aside0.mk hB3
  have HG0 : Aside0 (((w.alloc (.cells (sysA s p) 26)).alloc (.cells #[.slice none 0 0, .slice none 0 0, .slice none 0 0, .slice none 0 0, .slice none 0 0, .slice none 0 0, .slice none 0 0] 35)).heap[w.heap.size]? = some (.cells (sysA s p) 26 (0, 0))) := ⟨blk_alloc (blk_new w _) _⟩
  have hz : ((w.alloc (.cells (sysA s p) 26)).alloc (.cells #[.slice none 0 0, .slice none 0 0, .slice none 0 0, .slice none 0 0, .slice none 0 0, .slice none 0 0, .slice none 0 0] 35)).heap[w.heap.size + 1]? = some (.cells #[.slice none 0 0, .slice none 0 0, .slice none 0 0, .slice none 0 0, .slice none 0 0, .slice none 0 0, .slice none 0 0] 35 (0, 0)) := by
    have h1 := blk_new (w.alloc (.cells (sysA s p) 26)) (.cells #[.slice none 0 0, .slice none 0 0, .slice none 0 0, .slice none 0 0, .slice none 0 0, .slice none 0 0, .slice none 0 0] 35)
    rw [alloc_size] at h1
    exact h1
  have HZ := Aside0.mk (blk_alloc hz (.cells #[.slice p.a0 s.th.length p.c0, .slice p.a1 s.at_.length p.c1, .slice p.a2 s.su.length p.c2, .slice p.a3 s.lo.length p.c3, .slice p.a4 s.ce.length p.c4, .slice p.a5 s.ch.length p.c5, .slice none 0 0] 35))
  have HG : Aside0 ((((w.alloc (.cells (sysA s p) 26)).alloc (.cells #[.slice none 0 0, .slice none 0 0, .slice none 0 0, .slice none 0 0, .slice none 0 0, .slice none 0 0, .slice none 0 0] 35)).alloc (.cells #[.slice p.a0 s.th.length p.c0, .slice p.a1 s.at_.length p.c1, .slice p.a2 s.su.length p.c2, .slice p.a3 s.lo.length p.c3, .slice p.a4 s.ce.length p.c4, .slice p.a5 s.ch.length p.c5, .slice none 0 0] 35)).heap[w.heap.size + 2]? = some (.cells #[.slice p.a0 s.th.length p.c0, .slice p.a1 s.at_.length p.c1, .slice p.a2 s.su.length p.c2, .slice p.a3 s.lo.length p.c3, .slice p.a4 s.ce.length p.c4, .slice p.a5 s.ch.length p.c5, .slice none 0 0] 35 (0, 0))) := ⟨by
    have h1 := blk_new ((w.alloc (.cells (sysA s p) 26)).alloc (.cells #[.slice none 0 0, .slice none 0 0, .slice none 0 0, .slice none 0 0, .slice none 0 0, .slice none 0 0, .slice none 0 0] 35)) (.cells #[.slice p.a0 s.th.length p.c0, .slice p.a1 s.at_.length p.c1, .slice p.a2 s.su.length p.c2, .slice p.a3 s.lo.length p.c3, .slice p.a4 s.ce.length p.c4, .slice p.a5 s.ch.length p.c5, .slice none 0 0] 35)
    rw [alloc_size, alloc_size] at h1
    exact h1⟩
  have HL := Aside0.mk hl
  have HSH := Aside0.mk hS
  have HCb : Aside0 (∀ W, Below w.heap.size w W → w.heap.size + 2 < W.heap.size → W.heap[w.heap.size + 2]? = some (.cells #[.slice p.a0 s.th.length p.c0, .slice p.a1 s.at_.length p.c1, .slice p.a2 s.su.length p.c2, .slice p.a3 s.lo.length p.c3, .slice p.a4 s.ce.length p.c4, .slice p.a5 s.ch.length p.c5, .slice none 0 0] 35 (0, 0)) → InR P (w.heap.size + 2) (w.heap.size + 1) (w.heap.size + 3) W (s, [])) := ⟨fun W h1 h3 h2 => ⟨⟨fun k => P k || (k == w.heap.size + 1 || k == w.heap.size + 2), p, none, 0, fun k hk => by simp [hk], by simp, by simp, fun r hr => by simp [Value.ownBlock] at hr, fun k hk => by
      simp only [Bool.or_eq_true, beq_iff_eq] at hk
      rcases hk with hk | hk | hk
      · exact Nat.lt_of_lt_of_le (HP.out k hk) h1.size
      · omega
      · omega, h2, hC0.up (up_hid h1 (fun k hk h => by
      simp only [Bool.or_eq_true, beq_iff_eq] at h
      rcases h with h | h | h
      · exact h
      · omega
      · omega)), World.ownsRow_nil _ _ _ _⟩⟩⟩
  clear hC0 hP hS hl hB1 hB2 hB3 hz
  obtain ⟨a0, c0, a1, c1, a2, c2, a3, c3, a4, c4, a5, c5⟩ := p
  unfold sysA at *
  dsimp only at *
  obtain ⟨q0, q1, q2, q3, q4, q5⟩ := six_cells HG0.out
  go_enter Try.func13, Try.ntmps13
  go_wp2
  clear q0 q1 q2 q3 q4 q5 HG0
  obtain ⟨g5, hg5⟩ : ∃ g5, w.heap.size + 1 + 1 = g5 := ⟨_, rfl⟩
  have e2 : w.heap.size + 2 = g5 := hg5
  have e3 : w.heap.size + 3 = g5 + 1 := by omega
  rw [hg5]
  rw [e2] at HG
  rw [e2, e3] at HCb
  obtain ⟨g4, hg4⟩ : ∃ g4, w.heap.size + 1 = g4 := ⟨_, rfl⟩
  rw [hg4] at HZ HCb ⊢
  have HGG : Aside0 (w.heap.size ≤ g4 ∧ g4 < g5 ∧ w.heap.size ≤ g5) := ⟨by omega, by omega, by omega⟩
  clear hg5 e2 e3 hg4
  go_loopw [15] (fun v15 W => ∃ k : Nat, k ≤ l.length ∧ v15 = .int .i64 k ∧ Aside0 (Below w.heap.size w W) ∧ Aside0 (InR P (g5) (g4) (g5 + 1) W (runTo s l k)) ∧ Aside0 (W.heap[g4]? = some (.cells #[.slice none 0 0, .slice none 0 0, .slice none 0 0, .slice none 0 0, .slice none 0 0, .slice none 0 0, .slice none 0 0] 35 (0, 0)))) (fun v15 _ => l.length - (intOf v15).toNat)
  case atStart => exact ⟨0, Nat.zero_le _, rfl, HB, ⟨HCb.out _ HB.out (blk_lt HG.out) HG.out⟩, HZ⟩
  case round =>
    clear HB HG HZ HCb
    obtain ⟨k, hk, rfl, HB, HI, HZ⟩ := hrel
    obtain ⟨⟨Q, p, Aw, cw, h1, h2, h3, h4, h5, h6, h7, h8⟩⟩ := HI
    have HQ1 := Aside0.mk h1
    have HQ2 := Aside0.mk h2
    have HQ3 := Aside0.mk h3
    have HQ4 := Aside0.mk h4
    have HQ5 := Aside0.mk h5
    have HG := Aside0.mk h6
    have HSYS := Aside0.mk h7
    have HR := Aside0.mk h8
    clear h1 h2 h3 h4 h5 h6 h7 h8
    have HSK := Aside0.mk (runTo_shp HSH.out l k)
    have hge : Aside0 (g5 + 1 ≤ wr.heap.size) := ⟨blk_lt HG.out⟩
    by_cases hlt : k < l.length
    · obtain ⟨q, hq⟩ : ∃ q, l[k]? = some q := ⟨_, List.getElem?_eq_getElem hlt⟩
      obtain ⟨ad, rfl, t0⟩ := Kd.at_int (Kd.C_below HL.out HB.out) (k : Int) (by omega) (by omega)
      rw [rdI hq, Int.toNat_natCast] at t0
      have HQ := Aside0.mk (runTo_succ (s := s) hq)
      have HSt := Aside0.mk (runTo_stop (s := s) (l := l) (k := k))
      have HLE := Aside0.mk (runTo_len s l k)
      clear hq
      generalize runTo s l k = r at *
      obtain ⟨s1, went⟩ := r
      dsimp only at *
      by_cases he : enL s1 = []
      · have HEN : Aside0 (∀ (p : Ad) (W : World), SysC W s1 p → Calls Try.prog 25 #[.agg (sysA s1 p)] W (fun e w' => ∃ B d, e = .returned (.slice B 0 d) ∧ Below W.heap.size W w')) := ⟨fun p W h => (refEn_calls s1 p W h HSK.out.1).mono (by
          rintro e w' ⟨B, d, rfl, -, -, hb⟩
          rw [he]
          exact ⟨B, d, rfl, hb⟩)⟩
        have HRS := Aside0.mk (HSt.out he)
        clear he HSt HQ
        obtain ⟨a0, c0, a1, c1, a2, c2, a3, c3, a4, c4, a5, c5⟩ := p
        unfold sysA at HEN
        dsimp only at HG HEN
        obtain ⟨q0, q1, q2, q3, q4, q5, q6⟩ := sev_cells HG.out; obtain ⟨x0, x1, x2, x3, x4, x5, x6⟩ := sev_frozen HG.out
        go_wp2_with (go_at_call 25; refine (HEN.out ⟨a0, c0, a1, c1, a2, c2, a3, c3, a4, c4, a5, c5⟩ _ (HSYS.out.up (hid_up _ _))).mono ?_; rintro e w3 ⟨B, d, rfl, hb⟩; replace HG := Aside0.mk (blk_below HG.out hb); replace HZ := Aside0.mk (blk_below HZ.out hb); replace HR := Aside0.mk (below_row HR.out hb); replace HSYS := Aside0.mk (HSYS.out.up (up_hid hb (fun _ _ h => h))); replace HB := Aside0.mk (HB.out.trans (hb.mono HB.out.size)); clear q0 q1 q2 q3 q4 q5 q6 x0 x1 x2 x3 x4 x5 x6 hb; obtain ⟨q0, q1, q2, q3, q4, q5, q6⟩ := sev_cells HG.out; obtain ⟨x0, x1, x2, x3, x4, x5, x6⟩ := sev_frozen HG.out; obtain ⟨z0, z1, z2, z3, z4, z5, z6⟩ := sev_cells HZ.out; obtain ⟨y0, y1, y2, y3, y4, y5, y6⟩ := sev_frozen HZ.out)
        refine bodyPost_ret (results_cell_row rfl _ _ g4 35 _ (0, 0) _ rfl (sev_put _ _ _ _ _ _ _ HZ.out) Try.underlying35 rfl (by kernel_rfl)) rfl ?_
        rw [HRS.out]
        have hend := fun v0 v1 v2 v3 v4 v5 v6 => run_end (W := w3) (g := g4) (v0 := v0) (v1 := v1) (v2 := v2) (v3 := v3) (v4 := v4) (v5 := v5) (v6 := v6) (l := went) (n := went.length) rfl HSYS.out HQ3.out HQ1.out HR.out (Nat.lt_succ_of_lt HGG.out.2.1) HB.out HGG.out.1
        exact ⟨⟨a0, c0, a1, c1, a2, c2, a3, c3, a4, c4, a5, c5⟩, Aw, cw, rfl, hend _ _ _ _ _ _ _⟩
      · obtain ⟨pm1, pm2, pm3⟩ := pickT_mem q he
        obtain ⟨pc1, pc2⟩ := pickT_can q he
        obtain ⟨i, hi, hci⟩ := canB_some pc2
        have HPG := Aside0.mk (HQ.out.trans (pick1_go (r := (s1, went)) he q))
        have HST : Aside0 (∀ W, SysC (hid Q W) s1 p → (∀ k, Q k = true → k < W.heap.size) → Calls Try.prog 28 #[.agg (sysA s1 p), .int .i64 (pickT s1 q)] W (SysP Q (stepN s1 (pickT s1 q)) W)) := ⟨fun W h h2 => by
          rw [stepN_eq hi]
          exact refStep_calls Q s1 p (pickT s1 q) i W h h2 HSK.out.1 pc1 hi hci⟩
        have hnp : 0 < (enL s1).length := List.length_pos_iff.2 he
        have HEN : Aside0 (∀ W, SysC W s1 p → Calls Try.prog 25 #[.agg (sysA s1 p)] W (fun e w' => ∃ gd d, e = .returned (.slice (some gd) (enL s1).length d) ∧ w'.cell? (gd.add (pickI q (enL s1).length).toNat) = some (.int .i64 (pickT s1 q)) ∧ Below W.heap.size W w')) := ⟨fun W h => (refEn_calls s1 p W h HSK.out.1).mono (by
          rintro e w' ⟨B, d, rfl, hd, hci, hb⟩
          have hpi := pickI_lt (q := q) (n := (enL s1).length) (by omega)
          obtain ⟨gd, rfl, hcell⟩ := Kd.at_int hci (pickI q (enL s1).length) hpi.1 hpi.2
          have e1 : rd (enL s1) (pickI q (enL s1).length) = (pickT s1 q : Int) := by unfold rd; exact pm2
          rw [e1] at hcell
          exact ⟨gd, d, rfl, hcell, hb⟩)⟩
        have hn8 : (enL s1).length ≤ s1.th.length := by
          unfold enL
          rw [List.length_map]
          exact Nat.le_trans (List.length_filter_le _ _) (by simp)
        have hn9 := HSK.out.1.n
        generalize hne : (enL s1).length = n at *
        have hpi := pickI_lt (q := q) (n := n) (by omega)
        obtain ⟨j, hj⟩ : ∃ j : Nat, pickI q n = j := ⟨(pickI q n).toNat, by omega⟩
        rw [hj, Int.toNat_natCast] at HEN
        have hjn : j < n := by omega
        have dk : ((n : Int) == 0) = false := beq_eq_false_iff_ne.mpr (by omega)
        have hjw := pick_eq hnp (by omega) hj
        have HHE := Aside0.mk he
        clear he pm1 pm2 pm3 pc1 pc2 hi hci HSt hj hpi hne HQ hn8 hn9 hnp
        dsimp only at HPG
        generalize pickT s1 q = t at *
        generalize stepN s1 t = s2 at *
        obtain ⟨wt, hwt⟩ : ∃ wt, went ++ [(t : Int)] = wt := ⟨_, rfl⟩
        rw [hwt] at HPG
        have HWT := Aside0.mk hwt
        clear hwt
        obtain ⟨a0, c0, a1, c1, a2, c2, a3, c3, a4, c4, a5, c5⟩ := p
        unfold sysA at HEN HST
        dsimp only at HG HEN HST
        obtain ⟨q0, q1, q2, q3, q4, q5, q6⟩ := sev_cells HG.out; obtain ⟨x0, x1, x2, x3, x4, x5, x6⟩ := sev_frozen HG.out
        go_wp2_with (first
          | (go_at_call 25; refine (HEN.out _ (HSYS.out.up (hid_up Q wr))).mono ?_; rintro e w3 ⟨gd, d, rfl, u0, hb⟩; replace HG := Aside0.mk (blk_below HG.out hb); replace HZ := Aside0.mk (blk_below HZ.out hb); replace HR := Aside0.mk (below_row HR.out hb); replace HSYS := Aside0.mk (HSYS.out.up (up_hid hb (fun _ _ h => h))); replace HB := Aside0.mk (HB.out.trans (hb.mono HB.out.size)); replace HQ5 := Aside0.mk (fun k hk => Nat.lt_of_lt_of_le (HQ5.out k hk) hb.size); replace hge := Aside0.mk (Nat.le_trans hge.out hb.size); clear q0 q1 q2 q3 q4 q5 q6 x0 x1 x2 x3 x4 x5 x6 hb; obtain ⟨q0, q1, q2, q3, q4, q5, q6⟩ := sev_cells HG.out; obtain ⟨x0, x1, x2, x3, x4, x5, x6⟩ := sev_frozen HG.out)
          | (go_at_call 28; refine (HST.out _ HSYS.out HQ5.out).mono ?_; rintro e w4 ⟨⟨e0, f0, e1, f1, e2, f2, e3, f3, e4, f4, e5, f5⟩, rfl, hs, hb⟩; replace HG := Aside0.mk (blk_below HG.out hb); replace HZ := Aside0.mk (blk_below HZ.out hb); replace HR := Aside0.mk (below_row HR.out hb); have HS4 := Aside0.mk hs; replace HB := Aside0.mk (HB.out.trans (hb.mono HB.out.size)); replace HQ5 := Aside0.mk (fun k hk => Nat.lt_of_lt_of_le (HQ5.out k hk) hb.size); replace hge := Aside0.mk (Nat.le_trans hge.out hb.size); clear q0 q1 q2 q3 q4 q5 q6 x0 x1 x2 x3 x4 x5 x6 hb hs; obtain ⟨q0, q1, q2, q3, q4, q5, q6⟩ := sev_cells HG.out; obtain ⟨x0, x1, x2, x3, x4, x5, x6⟩ := sev_frozen HG.out; dsimp only [sysA])
          | (refine hold_store rfl ?_))
        refine ⟨store_list (w1 := ((((((w4.setCell ⟨g5, 0, none⟩ (.slice e0 s2.th.length f0)).setCell ⟨g5, 1, none⟩ (.slice e1 s2.at_.length f1)).setCell ⟨g5, 2, none⟩ (.slice e2 s2.su.length f2)).setCell ⟨g5, 3, none⟩ (.slice e3 s2.lo.length f3)).setCell ⟨g5, 4, none⟩ (.slice e4 s2.ce.length f4)).setCell ⟨g5, 5, none⟩ (.slice e5 s2.ch.length f5))) rfl rfl (by go_simp) ?_⟩
        clear q0 q1 q2 q3 q4 q5 q6 x0 x1 x2 x3 x4 x5 x6
        replace HG := Aside0.mk (sev_put6 (.slice e0 s2.th.length f0) (.slice e1 s2.at_.length f1) (.slice e2 s2.su.length f2) (.slice e3 s2.lo.length f3) (.slice e4 s2.ce.length f4) (.slice e5 s2.ch.length f5) HG.out)
        replace HZ := Aside0.mk (blk_six_far (g := g5) (v0 := (.slice e0 s2.th.length f0)) (v1 := (.slice e1 s2.at_.length f1)) (v2 := (.slice e2 s2.su.length f2)) (v3 := (.slice e3 s2.lo.length f3)) (v4 := (.slice e4 s2.ce.length f4)) (v5 := (.slice e5 s2.ch.length f5)) HZ.out (Nat.ne_of_lt HGG.out.2.1))
        replace HR := Aside0.mk (rowI_six (g := g5) (v0 := (.slice e0 s2.th.length f0)) (v1 := (.slice e1 s2.at_.length f1)) (v2 := (.slice e2 s2.su.length f2)) (v3 := (.slice e3 s2.lo.length f3)) (v4 := (.slice e4 s2.ce.length f4)) (v5 := (.slice e5 s2.ch.length f5)) HR.out (Nat.lt_succ_self _))
        replace HS4 := Aside0.mk (HS4.out.up (hid_six HQ2.out (v0 := (.slice e0 s2.th.length f0)) (v1 := (.slice e1 s2.at_.length f1)) (v2 := (.slice e2 s2.su.length f2)) (v3 := (.slice e3 s2.lo.length f3)) (v4 := (.slice e4 s2.ce.length f4)) (v5 := (.slice e5 s2.ch.length f5))))
        replace HB := Aside0.mk (below_six (g := g5) HB.out HGG.out.2.2 (v0 := (.slice e0 s2.th.length f0)) (v1 := (.slice e1 s2.at_.length f1)) (v2 := (.slice e2 s2.su.length f2)) (v3 := (.slice e3 s2.lo.length f3)) (v4 := (.slice e4 s2.ce.length f4)) (v5 := (.slice e5 s2.ch.length f5)))
        have hsz := six_size (W := w4) (g := g5) (v0 := (.slice e0 s2.th.length f0)) (v1 := (.slice e1 s2.at_.length f1)) (v2 := (.slice e2 s2.su.length f2)) (v3 := (.slice e3 s2.lo.length f3)) (v4 := (.slice e4 s2.ce.length f4)) (v5 := (.slice e5 s2.ch.length f5))
        replace HQ5 : Aside0 (∀ k, Q k = true → k < ((((((w4.setCell ⟨g5, 0, none⟩ (.slice e0 s2.th.length f0)).setCell ⟨g5, 1, none⟩ (.slice e1 s2.at_.length f1)).setCell ⟨g5, 2, none⟩ (.slice e2 s2.su.length f2)).setCell ⟨g5, 3, none⟩ (.slice e3 s2.lo.length f3)).setCell ⟨g5, 4, none⟩ (.slice e4 s2.ce.length f4)).setCell ⟨g5, 5, none⟩ (.slice e5 s2.ch.length f5)).heap.size) := ⟨fun k hk => by rw [hsz]; exact HQ5.out k hk⟩
        replace hge : Aside0 (g5 + 1 ≤ ((((((w4.setCell ⟨g5, 0, none⟩ (.slice e0 s2.th.length f0)).setCell ⟨g5, 1, none⟩ (.slice e1 s2.at_.length f1)).setCell ⟨g5, 2, none⟩ (.slice e2 s2.su.length f2)).setCell ⟨g5, 3, none⟩ (.slice e3 s2.lo.length f3)).setCell ⟨g5, 4, none⟩ (.slice e4 s2.ce.length f4)).setCell ⟨g5, 5, none⟩ (.slice e5 s2.ch.length f5)).heap.size) := ⟨by rw [hsz]; exact hge.out⟩
        clear hsz HSYS HST HEN
        generalize ((((((w4.setCell ⟨g5, 0, none⟩ (.slice e0 s2.th.length f0)).setCell ⟨g5, 1, none⟩ (.slice e1 s2.at_.length f1)).setCell ⟨g5, 2, none⟩ (.slice e2 s2.su.length f2)).setCell ⟨g5, 3, none⟩ (.slice e3 s2.lo.length f3)).setCell ⟨g5, 4, none⟩ (.slice e4 s2.ce.length f4)).setCell ⟨g5, 5, none⟩ (.slice e5 s2.ch.length f5)) = w5 at *
        obtain ⟨q0, q1, q2, q3, q4, q5, q6⟩ := sev_cells HG.out; obtain ⟨x0, x1, x2, x3, x4, x5, x6⟩ := sev_frozen HG.out
        go_wp2_with (at_builtin; refine hold ?_)
        refine ⟨?_⟩
        have hal : Below w5.heap.size w5 (w5.alloc (.cells #[.int .i64 (t : Int)] 3)) := (Below.refl _ _).alloc (Nat.le_refl _) _
        refine app_ints rfl _ _ rfl w5 (g5 + 1) _ went [(t : Int)] (some ⟨w5.heap.size, 0, none⟩) 1 1 rfl rfl (below_row HR.out hal) (one_CI (blk_new w5 _)) (hal.mono hge.out) (Nat.le_trans hge.out hal.size) (by have := HLE.out; simp; omega) ?_
        intro v1 w6 hr hb hgr hat
        rw [HWT.out] at hr
        obtain ⟨A6, c6, rfl⟩ := row_slice hr
        have HG6 := Aside0.mk (blk_low hb (Nat.lt_succ_self _) HG.out)
        have HZ6 := Aside0.mk (blk_low hb (Nat.lt_succ_of_lt HGG.out.2.1) HZ.out)
        have HIB := Aside0.mk (InR.grown (P := P) (h := g4) (p := ⟨e0, f0, e1, f1, e2, f2, e3, f3, e4, f4, e5, f5⟩) HQ1.out HQ2.out HQ3.out HQ4.out (fun k hk => Nat.lt_of_lt_of_le (HQ5.out k hk) hal.size) (HS4.out.up (up_hid hal (fun _ _ h => h))) hgr hat hr (Nat.lt_succ_self _) HG6.out)
        have HB6 := Aside0.mk (HB.out.trans (hb.mono (Nat.le_succ_of_le HGG.out.2.2)))
        clear hr hb hgr hat HG HZ hal q0 q1 q2 q3 q4 q5 q6 x0 x1 x2 x3 x4 x5 x6
        have q6 := blk_cell HG6.out 6
        have x6 := blk_frozen HG6.out 6
        go_wp2
        go_roundw
        case rel => exact ⟨k + 1, hlt, by go_num, ⟨below_put (k := 6) HB6.out HGG.out.2.2 _⟩, ⟨by rw [HPG.out]; exact HIB.out⟩, ⟨blk_far HZ6.out (p := ⟨g5, 6, none⟩) (Nat.ne_of_lt HGG.out.2.1) _⟩⟩
        case measure => simp [intOf]; omega
    · obtain rfl : k = l.length := by omega
      rw [runTo_all] at *
      obtain ⟨a0, c0, a1, c1, a2, c2, a3, c3, a4, c4, a5, c5⟩ := p
      generalize runS s l = r at *
      obtain ⟨s1, went⟩ := r
      dsimp only at *
      obtain ⟨q0, q1, q2, q3, q4, q5, q6⟩ := sev_cells HG.out; obtain ⟨x0, x1, x2, x3, x4, x5, x6⟩ := sev_frozen HG.out
      obtain ⟨z0, z1, z2, z3, z4, z5, z6⟩ := sev_cells HZ.out; obtain ⟨y0, y1, y2, y3, y4, y5, y6⟩ := sev_frozen HZ.out
      go_wp2
      refine bodyPost_ret (results_cell_row rfl _ _ g4 35 _ (0, 0) _ rfl (sev_put _ _ _ _ _ _ _ HZ.out) Try.underlying35 rfl (by kernel_rfl)) rfl ?_
      have hend := fun v0 v1 v2 v3 v4 v5 v6 => run_end (W := wr) (g := g4) (v0 := v0) (v1 := v1) (v2 := v2) (v3 := v3) (v4 := v4) (v5 := v5) (v6 := v6) (l := went) (n := went.length) rfl HSYS.out HQ3.out HQ1.out HR.out (Nat.lt_succ_of_lt HGG.out.2.1) HB.out HGG.out.1
      exact ⟨⟨a0, c0, a1, c1, a2, c2, a3, c3, a4, c4, a5, c5⟩, Aw, cw, rfl, hend _ _ _ _ _ _ _⟩
end Go.Proofs.Ythnimpbcfegmjaa.Own

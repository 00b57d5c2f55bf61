/-
  downpourlaw20.alive, walked by hand.
-/
import Derived.Test.YthnimpbcfegmjaaS18
namespace Go.Proofs.Ythnimpbcfegmjaa.Own
open Go.RowKit Go.Proofs.YthnimpbcfegmjaaW.PrintWords Go.Proofs.YthnimpbcfegmjaaW.PrintLast Go.Proofs.YthnimpbcfegmjaaW.PrintMore Go.Proofs.Ythnimpbcfegmjaa.P Go.Proofs.Ythnimpbcfegmjaa.Model
set_option linter.unusedVariables false
set_option linter.unusedSimpArgs false

def aL : List (List S44) := [[⟨2, 1, 5⟩]]
theorem aL_new : xNew aL = (newS aL, 0) := by
  unfold xNew
  rw [if_pos (by decide +kernel)]
theorem aL_right : rightB (newS aL) = true := by decide +kernel
theorem aL_went : (runS (newS aL) [0, 0]).2.length = 1 := by decide +kernel
theorem aL_ce : (runS (newS aL) [0, 0]).1.ce = [0, 5, 0, 0] := by decide +kernel
theorem aL_CT {W : World} {g1 g2 : Nat} (h1 : W.heap[g1]? = some (.cells #[.int .i64 2, .int .i64 1, .int .i64 5] 44 (0, 0))) (h2 : W.heap[g2]? = some (.cells #[.slice (some ⟨g1, 0, none⟩) 1 1] 42 (0, 0))) : CT W (some ⟨g2, 0, none⟩) aL := by
  refine ⟨rfl, by decide, fun _ => ⟨_, rfl, fun j p hj => ?_⟩⟩
  match j, hj with
  | 0, hj =>
    obtain rfl : [⟨2, 1, 5⟩] = p := by simpa [aL] using hj
    refine ⟨[.slice (some ⟨g1, 0, none⟩) 1 1], rfl, ⟨some ⟨g1, 0, none⟩, 1, rfl, Nat.le_refl _, rfl, by decide, fun _ => ⟨_, rfl, fun j q hj => ?_⟩⟩, fun i u hu => ?_⟩
    · match j, hj with
      | 0, hj =>
        obtain rfl : (⟨2, 1, 5⟩ : S44) = q := by simpa using hj
        refine ⟨[.int .i64 2, .int .i64 1, .int .i64 5], rfl, k44_mk W _, fun i u hu => ?_⟩
        rw [add_plain, blk_cell h1, ← Array.getElem?_toList]
        simpa using hu
      | j + 1, hj => simp at hj
    · match i, hu with
      | 0, hu => rw [add_plain, blk_cell h2]; exact hu
      | i + 1, hu => simp at hu
  | j + 1, hj => simp [aL] at hj
theorem two_CI {W : World} {g : Nat} (hb : W.heap[g]? = some (.cells #[.int .i64 0, .int .i64 0] 3 (0, 0))) : CI W (some ⟨g, 0, none⟩) [0, 0] := by
  refine ⟨rfl, by decide, fun _ => ⟨_, rfl, fun j p hj => ?_⟩⟩
  match j, hj with
  | 0, hj =>
    obtain rfl : (0 : Int) = p := by simpa using hj
    refine ⟨[.int .i64 0], rfl, rfl, fun i u hu => ?_⟩
    match i, hu with
    | 0, hu => rw [add_plain, blk_cell hb]; exact hu
    | i + 1, hu => simp at hu
  | 1, hj =>
    obtain rfl : (0 : Int) = p := by simpa using hj
    refine ⟨[.int .i64 0], rfl, rfl, fun i u hu => ?_⟩
    match i, hu with
    | 0, hu => rw [add_plain, blk_cell hb]; exact hu
    | i + 1, hu => simp at hu
  | j + 2, hj => simp at hj
set_option maxRecDepth 100000 in
set_option maxHeartbeats 4000000 in
theorem alive_calls (w : World) : Calls Try.prog 11 #[] w (Ret true w) := by
  have HB2 : Aside0 (Below w.heap.size w ((w.alloc (.cells #[.int .i64 2, .int .i64 1, .int .i64 5] 44)).alloc (.cells #[.slice (some ⟨w.heap.size, 0, none⟩) 1 1] 42))) := ⟨((Below.refl _ _).alloc (Nat.le_refl _) _).alloc (by simp) _⟩
  have HCT : Aside0 (CT ((w.alloc (.cells #[.int .i64 2, .int .i64 1, .int .i64 5] 44)).alloc (.cells #[.slice (some ⟨w.heap.size, 0, none⟩) 1 1] 42)) (some ⟨w.heap.size + 1, 0, none⟩) aL) := ⟨aL_CT (blk_alloc (blk_new w _) _) (by
    have h1 := blk_new (w.alloc (.cells #[.int .i64 2, .int .i64 1, .int .i64 5] 44)) (.cells #[.slice (some ⟨w.heap.size, 0, none⟩) 1 1] 42)
    rw [alloc_size] at h1
    exact h1)⟩
  have HNEW : Aside0 (∀ W, CT W (some ⟨w.heap.size + 1, 0, none⟩) aL → Calls Try.prog 15 #[.slice (some ⟨w.heap.size + 1, 0, none⟩) 1 1] W (fun e w' => ∃ a0 c0 a1 c1 a2 c2 a3 c3 a4 c4 a5 c5, e = .returned (.tuple #[.agg #[.slice a0 1 c0, .slice a1 1 c1, .slice a2 1 c2, .slice a3 4 c3, .slice a4 4 c4, .slice a5 4 c5], .int .i64 0]) ∧ SysC w' (newS aL) ⟨a0, c0, a1, c1, a2, c2, a3, c3, a4, c4, a5, c5⟩ ∧ Below W.heap.size W w')) := ⟨fun W hC => (xNew_calls (fun _ => false) (some ⟨w.heap.size + 1, 0, none⟩) 1 aL W (CT_up hC (hid_none W)) (by decide) (fun k hk => by cases hk) (by decide) (by decide)).mono (by
    rintro e w' ⟨p, rfl, hs, hb⟩
    obtain ⟨a0, c0, a1, c1, a2, c2, a3, c3, a4, c4, a5, c5⟩ := p
    rw [aL_new] at hs ⊢
    exact ⟨a0, c0, a1, c1, a2, c2, a3, c3, a4, c4, a5, c5, rfl, hs.up (hid_up _ _), hb⟩)⟩
  have HRUN : Aside0 (∀ (P : Nat → Bool) (W : World) (p : Ad) (A : Option Addr), SysC (hid P W) (newS aL) p → (∀ k, P k = true → k < W.heap.size) → CI W A [0, 0] → Calls Try.prog 9 #[.agg #[.slice p.a0 1 p.c0, .slice p.a1 1 p.c1, .slice p.a2 1 p.c2, .slice p.a3 4 p.c3, .slice p.a4 4 p.c4, .slice p.a5 4 p.c5], .slice A 2 2] W (fun e w' => ∃ n0 a0 c0 n1 a1 c1 n2 a2 c2 n3 a3 c3 a4 c4 n5 a5 c5 B d, e = .returned (.tuple #[.agg #[.slice a0 n0 c0, .slice a1 n1 c1, .slice a2 n2 c2, .slice a3 n3 c3, .slice a4 4 c4, .slice a5 n5 c5], .slice B 1 d, .int .i64 0]) ∧ CI (hid P w') a4 [0, 5, 0, 0] ∧ Below W.heap.size W w')) := ⟨fun P W p A hC hP hl => (xRun_calls P (newS aL) p A 2 [0, 0] W hC hP (new_bd (by decide) (by decide)) hl (by decide)).mono (by
    rintro e w' ⟨q, v, rfl, hs, hr, hb⟩
    have hx : xRun (newS aL) [0, 0] = runS (newS aL) [0, 0] := by unfold xRun; rw [if_pos aL_right]
    rw [hx] at hs hr ⊢
    rw [aL_right]
    have hw := aL_went
    have hce := aL_ce
    generalize runS (newS aL) [0, 0] = r at hs hr hw hce ⊢
    obtain ⟨B, d, rfl⟩ := row_slice hr
    have h4 := hs.r4
    rw [hce] at h4
    have e4 : r.1.ce.length = 4 := by rw [hce]; rfl
    obtain ⟨a0, c0, a1, c1, a2, c2, a3, c3, a4, c4, a5, c5⟩ := q
    rw [hw]
    unfold sysA
    dsimp only
    rw [e4]
    exact ⟨_, _, _, _, _, _, _, _, _, _, _, _, _, _, _, _, _, _, _, rfl, h4, hb⟩)⟩
  go_enter Try.func11, Try.ntmps11
  go_wp2_with (first
    | (go_at_call 15; refine (HNEW.out _ HCT.out).mono ?_; rintro e w3 ⟨a0, c0, a1, c1, a2, c2, a3, c3, a4, c4, a5, c5, rfl, hs, hb⟩; have HS3 := Aside0.mk hs; have HB3 := Aside0.mk (HB2.out.trans (hb.mono HB2.out.size)); clear hs hb)
    | (go_at_call 9; refine hold ?_))
  have hb4 : Below w3.heap.size w3 ((w3.alloc (.cells #[.slice a0 1 c0, .slice a1 1 c1, .slice a2 1 c2, .slice a3 4 c3, .slice a4 4 c4, .slice a5 4 c5] 26)).alloc (.cells #[.int .i64 0, .int .i64 0] 3)) := ((Below.refl _ _).alloc (Nat.le_refl _) _).alloc (by simp) _
  have hz5 := blk_alloc (blk_new w3 (.cells #[.slice a0 1 c0, .slice a1 1 c1, .slice a2 1 c2, .slice a3 4 c3, .slice a4 4 c4, .slice a5 4 c5] 26)) (.cells #[.int .i64 0, .int .i64 0] 3)
  have hl5 := blk_new (w3.alloc (.cells #[.slice a0 1 c0, .slice a1 1 c1, .slice a2 1 c2, .slice a3 4 c3, .slice a4 4 c4, .slice a5 4 c5] 26)) (.cells #[.int .i64 0, .int .i64 0] 3)
  rw [alloc_size] at hl5
  have HZ5 := Aside0.mk hz5
  have HB4 := Aside0.mk hb4
  refine ⟨(HRUN.out (fun k => k == w3.heap.size) _ ⟨a0, c0, a1, c1, a2, c2, a3, c3, a4, c4, a5, c5⟩ _ (HS3.out.up (up_new hb4 (fun k hk => by have := beq_iff_eq.1 hk; omega))) (fun k hk => by have := beq_iff_eq.1 hk; subst this; exact blk_lt hz5) (two_CI hl5)).mono ?_⟩
  clear hb4 hz5 hl5
  generalize ((w3.alloc (.cells #[.slice a0 1 c0, .slice a1 1 c1, .slice a2 1 c2, .slice a3 4 c3, .slice a4 4 c4, .slice a5 4 c5] 26)).alloc (.cells #[.int .i64 0, .int .i64 0] 3)) = w4 at *
  rintro e w5 ⟨n0, e0, f0, n1, e1, f1, n2, e2, f2, n3, e3, f3, e4, f4, n5, e5, f5, B, d, rfl, h4, hb⟩
  have HZ6 := Aside0.mk (blk_below HZ5.out hb)
  have HB6 := Aside0.mk (HB3.out.trans ((HB4.out.trans (hb.mono HB4.out.size)).mono HB3.out.size))
  have HGE : Aside0 (w.heap.size ≤ w3.heap.size) := ⟨HB3.out.size⟩
  have HH := Aside0.mk h4
  clear hb h4 HZ5 HB4
  have HH7 := Aside0.mk ((CI_up HH.out (hid_six (W := w5) (g := w3.heap.size) (by simp) (v0 := .slice e0 n0 f0) (v1 := .slice e1 n1 f1) (v2 := .slice e2 n2 f2) (v3 := .slice e3 n3 f3) (v4 := .slice e4 4 f4) (v5 := .slice e5 n5 f5))))
  replace HH7 := Aside0.mk (CI_up HH7.out (hid_up _ _))
  have HB7 : Aside0 (Below w.heap.size w ((((((w5.setCell ⟨w3.heap.size, 0, none⟩ (.slice e0 n0 f0)).setCell ⟨w3.heap.size, 1, none⟩ (.slice e1 n1 f1)).setCell ⟨w3.heap.size, 2, none⟩ (.slice e2 n2 f2)).setCell ⟨w3.heap.size, 3, none⟩ (.slice e3 n3 f3)).setCell ⟨w3.heap.size, 4, none⟩ (.slice e4 4 f4)).setCell ⟨w3.heap.size, 5, none⟩ (.slice e5 n5 f5))) := ⟨below_six HB6.out HGE.out⟩
  obtain ⟨q0, q1, q2, q3, q4, q5⟩ := six_cells HZ6.out
  obtain ⟨x0, x1, x2, x3, x4, x5⟩ := six_frozen HZ6.out
  go_wp2
  clear q0 q1 q2 q3 q4 q5 x0 x1 x2 x3 x4 x5 HZ6 HB6 HH
  generalize ((((((w5.setCell ⟨w3.heap.size, 0, none⟩ (.slice e0 n0 f0)).setCell ⟨w3.heap.size, 1, none⟩ (.slice e1 n1 f1)).setCell ⟨w3.heap.size, 2, none⟩ (.slice e2 n2 f2)).setCell ⟨w3.heap.size, 3, none⟩ (.slice e3 n3 f3)).setCell ⟨w3.heap.size, 4, none⟩ (.slice e4 4 f4)).setCell ⟨w3.heap.size, 5, none⟩ (.slice e5 n5 f5)) = w7 at *
  obtain ⟨ad, rfl, t0⟩ := Kd.at_int HH7.out (1 : Int) (by decide) (by decide)
  have hrd : rd ([0, 5, 0, 0] : List Int) 1 = 5 := rfl
  have ht1 : (1 : Int).toNat = 1 := rfl
  rw [hrd, ht1] at t0
  have t1 : w7.cell? ⟨ad.block, ad.off + 1, none⟩ = some (.int .i64 5) := by
    have h1 := add_field ad 0 1 (by omega)
    rw [show ad.add 0 = ad by simp [Addr.add]] at h1
    rw [← t0, ← h1]
  clear hrd ht1 t0
  go_simp
  go_wp2
  go_ret
  exact ⟨rfl, HB7.out⟩
end Go.Proofs.Ythnimpbcfegmjaa.Own

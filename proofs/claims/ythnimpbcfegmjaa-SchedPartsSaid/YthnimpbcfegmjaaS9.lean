/-
  ISend, walked by hand.
-/
import Derived.Test.YthnimpbcfegmjaaS8
import Derived.Deep.RegionLawGrows
namespace Go.Proofs.Ythnimpbcfegmjaa.Own
open Go.RowKit Go.Proofs.YthnimpbcfegmjaaW.PrintWords Go.Proofs.YthnimpbcfegmjaaW.PrintLast Go.Proofs.YthnimpbcfegmjaaW.PrintMore Go.Proofs.Ythnimpbcfegmjaa.P Go.Proofs.Ythnimpbcfegmjaa.Model
set_option linter.unusedVariables false
set_option linter.unusedSimpArgs false

theorem cells_of {w : World} {q : Addr} {y : List Int} (h : CI w (some q) y) (j : Nat) (u : Value) (hj : (nums .i64 y)[j]? = some u) : w.cell? (q.add j) = some u := by
  have hl := (List.getElem?_eq_some_iff.1 hj).1
  rw [nums_length] at hl
  obtain ⟨x, hx⟩ : ∃ x, y[j]? = some x := ⟨_, List.getElem?_eq_getElem hl⟩
  rw [nums_get hx] at hj
  cases hj
  obtain ⟨ad, e, h1⟩ := Kd.at_int h (j : Int) (by omega) (by omega)
  injection e with e
  subst e
  rw [rdI hx, Int.toNat_natCast] at h1
  exact h1
theorem one_cell {w : World} {g : Nat} {x : Int} (hb : w.heap[g]? = some (.cells #[.int .i64 x] 3 (0, 0))) (j : Nat) (u : Value) (hj : [Value.int .i64 x][j]? = some u) : w.cell? ((⟨g, 0, none⟩ : Addr).add j) = some u := by
  match j, hj with
  | 0, hj => rw [add_plain, blk_cell hb]; exact hj
theorem row_app {w : World} {b n : Nat} {A : Option Addr} {c : Nat} {y : List Int} {x : Int} (h : w.ownsRow b 3 1 (.slice A n c) n (nums .i64 y ++ [.int .i64 x])) : RowI w b (.slice A (y ++ [x]).length c) (y ++ [x]) := by
  have h1 := h.1
  rw [List.length_append, nums_length, Nat.mul_one] at h1
  have h2 : (y ++ [x]).length = n := by rw [List.length_append]; exact h1
  unfold RowI
  rw [h2]
  have h3 : nums .i64 (y ++ [x]) = nums .i64 y ++ [.int .i64 x] := by simp [nums]
  rw [h3]
  exact h
set_option maxRecDepth 100000 in
set_option maxHeartbeats 4000000 in
theorem send_calls (w0 : World) (b : Nat) (s : Syst) (p : Ad) (us : List Value) (t : Nat) (na n : Int) (w : World) (hO : OwnS w0 b w s p us) (hi : okI ⟨3, na, n⟩ = true) (h4 : s.ch.length = 4) (hm : ∀ l, l ∈ s.ch → l.length ≤ 2) (hb : b ≤ w.heap.size) : Calls Try.prog 69 #[.agg (sysA s p), .int .i64 t, iv ⟨3, na, n⟩] w (DoP w0 b (doI s t ⟨3, na, n⟩) p w) := by
  obtain ⟨_, _, h1, h2, _⟩ := okI_bounds hi
  dsimp only at h1 h2
  obtain ⟨k, rfl⟩ : ∃ k : Nat, na = k := ⟨na.toNat, by omega⟩
  have hlt : k < s.ch.length := by omega
  obtain ⟨y, hy⟩ : ∃ y, s.ch[k]? = some y := ⟨_, List.getElem?_eq_getElem hlt⟩
  have hy2 := hm y (List.mem_of_getElem? hy)
  have hul : us.length = s.ch.length := by have := hO.r5.1; omega
  obtain ⟨u, hu⟩ : ∃ u, us[k]? = some u := ⟨_, List.getElem?_eq_getElem (by omega)⟩
  obtain ⟨A, c, rfl, hyc, hA⟩ := hO.inn k y u hy hu
  obtain ⟨g5, hg5, hge5, t50, t51⟩ := own_at hO.r5 k _ hu
  have hB1 : Below w.heap.size w (w.alloc (.cells (sysA s p) 26)) := (Below.refl _ _).alloc (Nat.le_refl _) _
  have hB2 := hB1.alloc hB1.size (.cells #[.int .i64 3, .int .i64 k, .int .i64 n] 44)
  have HO2 := Aside0.mk (hO.below hB2)
  have HB2 := Aside0.mk (Below.mono hB2 hb)
  have HBB := Aside0.mk hb
  have t5 := pw_cell_below hB2 t50
  have f5 : ((w.alloc (.cells (sysA s p) 26)).alloc (.cells #[.int .i64 3, .int .i64 k, .int .i64 n] 44)).frozen? ⟨g5, k, none⟩ = false := by
    obtain ⟨g5', e5', _, _, f5⟩ := own_at HO2.out.r5 k _ hu
    have e5'' : g5 = g5' := by rw [hg5] at e5'; injection e5' with e5'; injection e5'
    rw [e5'']; exact f5
  have HA := Aside0.mk (CI_up hA HO2.out.bel)
  have HD : Aside0 (doI s t ⟨3, k, n⟩ = { s with ch := s.ch.set k (y ++ [n]) }) := ⟨by unfold doI; simp [hy]⟩
  have HHU := Aside0.mk hu
  have HQ : Aside0 (((w.alloc (.cells (sysA s p) 26)).alloc (.cells #[.int .i64 3, .int .i64 k, .int .i64 n] 44)).heap[w.heap.size]? = some (.cells (sysA s p) 26 (0, 0))) := ⟨blk_alloc (blk_new w _) _⟩
  have HI : Aside0 (((w.alloc (.cells (sysA s p) 26)).alloc (.cells #[.int .i64 3, .int .i64 k, .int .i64 n] 44)).heap[w.heap.size + 1]? = some (.cells #[.int .i64 3, .int .i64 k, .int .i64 n] 44 (0, 0))) := ⟨by
    have h1 := blk_new (w.alloc (.cells (sysA s p) 26)) (.cells #[.int .i64 3, .int .i64 k, .int .i64 n] 44)
    have hsz : (w.alloc (.cells (sysA s p) 26)).heap.size = w.heap.size + 1 := by simp
    rw [hsz] at h1
    exact h1⟩
  obtain ⟨a0, c0, a1, c1, a2, c2, a3, c3, a4, c4, a5, c5⟩ := p
  unfold sysA at *
  dsimp only at *
  subst hg5
  clear hO hB1 hB2 hi h4 h2 hb t50 t51 hul hu hA hm hy
  go_enter Try.func69, Try.ntmps69
  go_wp2
  have q5 : ((w.alloc (.cells #[.slice a0 s.th.length c0, .slice a1 s.at_.length c1, .slice a2 s.su.length c2, .slice a3 s.lo.length c3, .slice a4 s.ce.length c4, .slice (some ⟨g5, 0, none⟩) s.ch.length c5] 26)).alloc (.cells #[.int .i64 3, .int .i64 k, .int .i64 n] 44)).cell? ⟨w.heap.size, 5, none⟩ = some (.slice (some ⟨g5, 0, none⟩) s.ch.length c5) := blk_cell HQ.out 5
  have i1 : ((w.alloc (.cells #[.slice a0 s.th.length c0, .slice a1 s.at_.length c1, .slice a2 s.su.length c2, .slice a3 s.lo.length c3, .slice a4 s.ce.length c4, .slice (some ⟨g5, 0, none⟩) s.ch.length c5] 26)).alloc (.cells #[.int .i64 3, .int .i64 k, .int .i64 n] 44)).cell? ⟨w.heap.size + 1, 1, none⟩ = some (.int .i64 k) := blk_cell HI.out 1
  have i2 : ((w.alloc (.cells #[.slice a0 s.th.length c0, .slice a1 s.at_.length c1, .slice a2 s.su.length c2, .slice a3 s.lo.length c3, .slice a4 s.ce.length c4, .slice (some ⟨g5, 0, none⟩) s.ch.length c5] 26)).alloc (.cells #[.int .i64 3, .int .i64 k, .int .i64 n] 44)).cell? ⟨w.heap.size + 1, 2, none⟩ = some (.int .i64 n) := blk_cell HI.out 2
  generalize (w.alloc (.cells #[.slice a0 s.th.length c0, .slice a1 s.at_.length c1, .slice a2 s.su.length c2, .slice a3 s.lo.length c3, .slice a4 s.ce.length c4, .slice (some ⟨g5, 0, none⟩) s.ch.length c5] 26)).alloc (.cells #[.int .i64 3, .int .i64 k, .int .i64 n] 44) = w2 at *
  refine start_ (n := 17) (S := fun w' => w'.cell? ⟨w.heap.size, 5, none⟩ = some (.slice (some ⟨g5, 0, none⟩) s.ch.length c5) ∧ w'.cell? ⟨w.heap.size + 1, 1, none⟩ = some (.int .i64 k) ∧ w'.cell? ⟨w.heap.size + 1, 2, none⟩ = some (.int .i64 n) ∧ w'.cell? ⟨g5, k, none⟩ = some (.slice A y.length c)) (ds := [16]) #[false, false, false, false, false, false, false, false, false, false, false, false, false, false, false, false, false] (by kernel_rfl) rfl rfl ⟨q5, i1, i2, t5⟩ (fun hHeld => ?_)
  have HO3 := Aside0.mk HO2.out.drew
  have HB3 := Aside0.mk (below_drew HB2.out)
  have HA3 := Aside0.mk (Kd.C_below HA.out (below_drew (Below.refl w2.heap.size w2)))
  clear q5 i1 i2 t5 f5 HQ HI HA HO2 HB2
  generalize w2.drew = w3 at *
  refine pure_ (i := 0) (N := some 6) (v := ?_) (a' := ?_) #[true, false, false, false, false, false, false, false, false, false, false, false, false, false, false, false, false] rfl rfl (by kernel_rfl) (fun _ _ _ h => h) (Or.inl ⟨by rfl, ?_⟩) ?_ ?_
  rotate_left
  · intro w'
    go_simp
    with_reducible rfl
  rotate_left
  · simp only [Act.put, List.setIfInBounds_toArray, List.set_cons_zero, List.set_cons_succ, i64_w, i32_w]
    rfl
  refine pure_ (i := 2) (N := some 8) (v := ?_) (a' := ?_) #[true, false, true, false, false, false, false, false, false, false, false, false, false, false, false, false, false] rfl rfl (by kernel_rfl) (fun _ _ _ h => h) (Or.inl ⟨by rfl, ?_⟩) ?_ ?_
  rotate_left
  · intro w'
    go_simp
    with_reducible rfl
  rotate_left
  · simp only [Act.put, List.setIfInBounds_toArray, List.set_cons_zero, List.set_cons_succ, i64_w, i32_w]
    rfl
  refine pure_ (i := 4) (N := some 10) (v := ?_) (a' := ?_) #[true, false, true, false, true, false, false, false, false, false, false, false, false, false, false, false, false] rfl rfl (by kernel_rfl) (fun _ _ _ h => h) (Or.inl ⟨by rfl, ?_⟩) ?_ ?_
  rotate_left
  · intro w'
    go_simp
    with_reducible rfl
  rotate_left
  · simp only [Act.put, List.setIfInBounds_toArray, List.set_cons_zero, List.set_cons_succ, i64_w, i32_w]
    rfl
  refine pure_ (i := 6) (N := some 12) (v := ?_) (a' := ?_) #[true, false, true, false, true, false, true, false, false, false, false, false, false, false, false, false, false] rfl rfl (by kernel_rfl) (fun _ _ _ h => h) (Or.inl ⟨by rfl, ?_⟩) ?_ ?_
  rotate_left
  · intro w'
    go_simp
    with_reducible rfl
  rotate_left
  · simp only [Act.put, List.setIfInBounds_toArray, List.set_cons_zero, List.set_cons_succ, i64_w, i32_w]
    rfl
  refine pure_ (i := 11) (N := some 17) (v := ?_) (a' := ?_) #[true, false, true, false, true, false, true, false, false, false, false, true, false, false, false, false, false] rfl rfl (by kernel_rfl) (fun _ _ _ h => h) (Or.inl ⟨by rfl, ?_⟩) ?_ ?_
  rotate_left
  · intro w'
    go_simp
    with_reducible rfl
  rotate_left
  · simp only [Act.put, List.setIfInBounds_toArray, List.set_cons_zero, List.set_cons_succ, i64_w, i32_w]
    rfl
  refine take_ (i := 1) (N := some 7) (v := ?_) (a' := ?_) #[true, true, true, false, true, false, true, false, false, false, false, true, false, false, false, false, false] rfl rfl (by kernel_rfl) (fun _ _ _ h => h) (Or.inl ⟨by rfl, ?_⟩) hHeld ?_ ?_
  rotate_left
  · rintro w' ⟨s0, s1, s2, s3⟩
    go_simp
    with_reducible rfl
  rotate_left
  · simp only [Act.put, List.setIfInBounds_toArray, List.set_cons_zero, List.set_cons_succ, i64_w, i32_w]
    rfl
  refine take_ (i := 3) (N := some 9) (v := ?_) (a' := ?_) #[true, true, true, true, true, false, true, false, false, false, false, true, false, false, false, false, false] rfl rfl (by kernel_rfl) (fun _ _ _ h => h) (Or.inl ⟨by rfl, ?_⟩) hHeld ?_ ?_
  rotate_left
  · rintro w' ⟨s0, s1, s2, s3⟩
    go_simp
    with_reducible rfl
  rotate_left
  · simp only [Act.put, List.setIfInBounds_toArray, List.set_cons_zero, List.set_cons_succ, i64_w, i32_w]
    rfl
  refine take_ (i := 5) (N := some 11) (v := ?_) (a' := ?_) #[true, true, true, true, true, true, true, false, false, false, false, true, false, false, false, false, false] rfl rfl (by kernel_rfl) (fun _ _ _ h => h) (Or.inl ⟨by rfl, ?_⟩) hHeld ?_ ?_
  rotate_left
  · rintro w' ⟨s0, s1, s2, s3⟩
    go_simp
    with_reducible rfl
  rotate_left
  · simp only [Act.put, List.setIfInBounds_toArray, List.set_cons_zero, List.set_cons_succ, i64_w, i32_w]
    rfl
  refine take_ (i := 7) (N := some 13) (v := ?_) (a' := ?_) #[true, true, true, true, true, true, true, true, false, false, false, true, false, false, false, false, false] rfl rfl (by kernel_rfl) (fun _ _ _ h => h) (Or.inl ⟨by rfl, ?_⟩) hHeld ?_ ?_
  rotate_left
  · rintro w' ⟨s0, s1, s2, s3⟩
    go_simp
    with_reducible rfl
  rotate_left
  · simp only [Act.put, List.setIfInBounds_toArray, List.set_cons_zero, List.set_cons_succ, i64_w, i32_w]
    rfl
  refine take_ (i := 12) (N := some 18) (v := ?_) (a' := ?_) #[true, true, true, true, true, true, true, true, false, false, false, true, true, false, false, false, false] rfl rfl (by kernel_rfl) (fun _ _ _ h => h) (Or.inl ⟨by rfl, ?_⟩) hHeld ?_ ?_
  rotate_left
  · rintro w' ⟨s0, s1, s2, s3⟩
    go_simp
    with_reducible rfl
  rotate_left
  · simp only [Act.put, List.setIfInBounds_toArray, List.set_cons_zero, List.set_cons_succ, i64_w, i32_w]
    rfl
  refine pure_ (i := 8) (N := some 14) (v := ?_) (a' := ?_) #[true, true, true, true, true, true, true, true, true, false, false, true, true, false, false, false, false] rfl rfl (by kernel_rfl) (fun _ _ _ h => h) (Or.inl ⟨by rfl, ?_⟩) ?_ ?_
  rotate_left
  · intro w'
    go_simp
    with_reducible rfl
  rotate_left
  · simp only [Act.put, List.setIfInBounds_toArray, List.set_cons_zero, List.set_cons_succ, i64_w, i32_w]
    rfl
  refine take_ (i := 9) (N := some 15) (v := ?_) (a' := ?_) #[true, true, true, true, true, true, true, true, true, true, false, true, true, false, false, false, false] rfl rfl (by kernel_rfl) (fun _ _ _ h => h) (Or.inl ⟨by rfl, ?_⟩) hHeld ?_ ?_
  rotate_left
  · rintro w' ⟨s0, s1, s2, s3⟩
    go_simp
    with_reducible rfl
  rotate_left
  · simp only [Act.put, List.setIfInBounds_toArray, List.set_cons_zero, List.set_cons_succ, i64_w, i32_w]
    rfl
  refine join_ (σ := Unit) 3 #[true, true, true, true, true, true, true, true, true, true, true, true, true, true, false, false, false] (fun _ => [(16, .slice A y.length y.length), (19, .slice (some ⟨w3.heap.size, 0, none⟩) 1 1)]) (fun _ w' => w' = w3.alloc (.cells #[.int .i64 n] 3)) ?_ ?_
  rotate_left
  · intro hc
    refine two_ (i := 10) (j := 13) (Ni := some 16) (Nj := some 19) #[true, true, true, true, true, true, true, true, true, true, true, true, true, false, false, false, false] #[true, true, true, true, true, true, true, true, true, true, false, true, true, true, false, false, false] rfl rfl rfl rfl (by kernel_rfl) (by decide) (by decide) (fun K hK => ?_) (fun K hK => ?_)
    · refine goes_ Try.func70 (by kernel_rfl) rfl #[.slice A y.length c] (by rfl) rfl rfl (by (try simp only [List.map_toArray, List.map_cons, List.map_nil]); first | done | rfl) ?_
      refine (clip_calls A y.length c _ hyc (by omega)).mono ?_
      rintro e w' ⟨rfl, rfl⟩
      refine ⟨_, rfl, ?_⟩
      refine hK.out _ _ hHeld (fun hHeld => ?_)
      clear hK K
      refine one_ (i := 13) (N := some 19) #[true, true, true, true, true, true, true, true, true, true, true, true, true, true, false, false, false] rfl rfl (by kernel_rfl) (by decide) (fun K hK => ?_)
      refine value_ (v := .slice (some ⟨w3.heap.size, 0, none⟩) 1 1) (w1 := w3.alloc (.cells #[.int .i64 n] 3)) (by rfl) rfl (by go_simp) ?_
      have hb4 : Below w3.heap.size w3 (w3.alloc (.cells #[.int .i64 n] 3)) := (Below.refl _ _).alloc (Nat.le_refl _) _
      refine hK.out _ _ ⟨pw_cell_below hb4 hHeld.1, pw_cell_below hb4 hHeld.2.1, pw_cell_below hb4 hHeld.2.2.1, pw_cell_below hb4 hHeld.2.2.2⟩ (fun hHeld => hc () _ rfl)
    · refine value_ (v := .slice (some ⟨w3.heap.size, 0, none⟩) 1 1) (w1 := w3.alloc (.cells #[.int .i64 n] 3)) (by rfl) rfl (by go_simp) ?_
      have hb4 : Below w3.heap.size w3 (w3.alloc (.cells #[.int .i64 n] 3)) := (Below.refl _ _).alloc (Nat.le_refl _) _
      refine hK.out _ _ ⟨pw_cell_below hb4 hHeld.1, pw_cell_below hb4 hHeld.2.1, pw_cell_below hb4 hHeld.2.2.1, pw_cell_below hb4 hHeld.2.2.2⟩ (fun hHeld => ?_)
      clear hK K
      refine one_ (i := 10) (N := some 16) #[true, true, true, true, true, true, true, true, true, true, true, true, true, true, false, false, false] rfl rfl (by kernel_rfl) (by decide) (fun K hK => ?_)
      refine goes_ Try.func70 (by kernel_rfl) rfl #[.slice A y.length c] (by rfl) rfl rfl (by (try simp only [List.map_toArray, List.map_cons, List.map_nil]); first | done | rfl) ?_
      refine (clip_calls A y.length c _ hyc (by omega)).mono ?_
      rintro e w' ⟨rfl, rfl⟩
      refine ⟨_, rfl, ?_⟩
      refine hK.out _ _ hHeld (fun hHeld => norm_ ?_ (hc () _ rfl))
      show Act.put (Act.put _ (some 19) _) (some 16) _ = Act.put (Act.put _ (some 16) _) (some 19) _
      simp only [Act.put, List.setIfInBounds_toArray, List.set_cons_zero, List.set_cons_succ]
  rintro _ _ rfl
  refine norm_ (a' := ?_) ?_ ?_
  rotate_left
  · show Act.put (Act.put _ (some 16) _) (some 19) _ = _
    simp only [Act.put, List.setIfInBounds_toArray, List.set_cons_zero, List.set_cons_succ, i64_w, i32_w]
    rfl
  have hb4 : Below w3.heap.size w3 (w3.alloc (.cells #[.int .i64 n] 3)) := (Below.refl _ _).alloc (Nat.le_refl _) _
  replace hHeld := And.intro (pw_cell_below hb4 hHeld.1) (And.intro (pw_cell_below hb4 hHeld.2.1) (And.intro (pw_cell_below hb4 hHeld.2.2.1) (pw_cell_below hb4 hHeld.2.2.2)))
  have HO4 := Aside0.mk (HO3.out.below hb4)
  have HB4 := Aside0.mk (HB3.out.trans (hb4.mono (Nat.le_trans HBB.out HB3.out.size)))
  have HA4 := Aside0.mk (Kd.C_below HA3.out hb4)
  have HN4 := Aside0.mk (blk_new w3 (.cells #[.int .i64 n] 3))
  clear hb4 HO3 HB3 HA3
  refine one_ (i := 14) (N := some 20) #[true, true, true, true, true, true, true, true, true, true, true, true, true, true, true, false, false] rfl rfl (by kernel_rfl) (by decide) (fun K hK => ?_)
  obtain ⟨i0, hi, hz0, hz1, hz2⟩ := info_parts info3
  refine step_append_grows rfl _ _ 23 rfl 3 i0 _ 1 8 Try.underlying23 hi hz0 hz1 hz2 rfl (by decide) A y.length y.length (nums .i64 y) (by rfl) (fun e => by subst e; have := nil_of_none HA4.out; subst this; exact ⟨rfl, rfl⟩) (by rw [nums_length, Nat.mul_one]) (fun q e j u hj => by subst e; exact cells_of HA4.out j u hj) ⟨w3.heap.size, 0, none⟩ 1 1 [.int .i64 n] (by rfl) rfl (fun j u hj => one_cell HN4.out j u hj) (by simp [Value.oneCell']) (by omega) (Nat.le_trans (show y.length + 1 ≤ 1000 by omega) (by decide)) (by omega) ?_
  intro v1 w4 hown hgrow
  obtain ⟨A4, c4', rfl⟩ := row_slice hown
  have hb5 : Below (w3.alloc (.cells #[.int .i64 n] 3)).heap.size (w3.alloc (.cells #[.int .i64 n] 3)) w4 := (Below.refl _ _).grown hgrow (Nat.le_refl _) (fun k hk => by cases hk)
  refine hK.out _ _ ⟨pw_cell_below hb5 hHeld.1, pw_cell_below hb5 hHeld.2.1, pw_cell_below hb5 hHeld.2.2.1, pw_cell_below hb5 hHeld.2.2.2⟩ (fun hHeld => ?_)
  have HO5 := Aside0.mk (HO4.out.below hb5)
  have HBW := Aside0.mk HB4.out.size
  have HB5 := Aside0.mk (HB4.out.trans (hb5.mono (Nat.le_trans HBB.out HB4.out.size)))
  have HR5 := Aside0.mk (row_app hown)
  have HG5 : Aside0 (g5 < (w3.alloc (.cells #[.int .i64 n] 3)).heap.size) := ⟨by
    obtain ⟨_, e, _, h1, _⟩ := own_at HO4.out.r5 k _ HHU.out
    injection e with e
    injection e with e
    rw [e]
    exact World.block_lt_of_cell? _ _ h1⟩
  clear hb5 hown hgrow HO4 HA4 HN4 HB4
  clear hK K
  refine norm_ (a' := ?_) ?_ ?_
  rotate_left
  · show Act.put _ (some 20) _ = _
    simp only [Act.put, List.setIfInBounds_toArray, List.set_cons_zero, List.set_cons_succ, i64_w, i32_w]
    rfl
  refine pure_ (i := 15) (N := some 21) (v := ?_) (a' := ?_) #[true, true, true, true, true, true, true, true, true, true, true, true, true, true, true, true, false] rfl rfl (by kernel_rfl) (fun _ _ _ h => h) (Or.inl ⟨by rfl, ?_⟩) ?_ ?_
  rotate_left
  · intro w'
    go_simp
    with_reducible rfl
  rotate_left
  · simp only [Act.put, List.setIfInBounds_toArray, List.set_cons_zero, List.set_cons_succ, i64_w, i32_w]
    rfl
  refine last_ (i := 16) (N := none) #[true, true, true, true, true, true, true, true, true, true, true, true, true, true, true, true, true] rfl rfl (by kernel_rfl) (by decide) (fun K hK => ?_)
  obtain ⟨g5', e5', _, t5, f5⟩ := own_at HO5.out.r5 k _ HHU.out
  have e5'' : g5 = g5' := by injection e5' with e5'; injection e5'
  subst e5''
  refine skip_ (w1 := ?_) (by rfl) rfl ?_ ?_
  rotate_left
  · go_simp
    rfl
  refine hK.out _ _ ?_
  clear hK K
  refine done_ (by kernel_rfl) ?_
  have hlen : (y ++ [n]).length = y.length + 1 := by simp
  have hc4 : y.length + 1 ≤ c4' := by have := (rowI_CI HR5.out).2; omega
  have hge4 : ob A4 ≠ some g5 := by
    intro e
    rcases HR5.out.2 with ⟨h1, _⟩ | ⟨g, cap, cur, h1, h2, _⟩
    · injection h1 with h1
      rw [h1] at e
      cases e
    · injection h1 with h1
      rw [h1] at e
      injection e with e
      have e' : g = g5 := e
      have := HG5.out
      omega
  have hfin := HO5.out.set5 rfl k (y ++ [n]) A4 c4' (by omega) (.inr ⟨own_weaken HR5.out (Nat.le_trans HBB.out HBW.out), hge4⟩)
  rw [hlen] at hfin
  have HP : Aside0 (DoP w0 b (doI s t ⟨3, k, n⟩) _ w (.returned (.tuple #[])) _) := ⟨⟨_, rfl, by rw [HD.out]; exact hfin, below_put (k := k) HB5.out hge5 _⟩⟩
  clear hfin hc4 hlen hge4
  go_end0
  exact HP.out
end Go.Proofs.Ythnimpbcfegmjaa.Own

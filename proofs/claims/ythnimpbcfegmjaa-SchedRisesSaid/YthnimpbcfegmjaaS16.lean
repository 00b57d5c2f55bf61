/-
  downpourlaw20.few, walked by hand.
-/
import Derived.Test.YthnimpbcfegmjaaA2
namespace Go.Proofs.Ythnimpbcfegmjaa.Own
open Go.RowKit Go.Proofs.YthnimpbcfegmjaaW.PrintWords Go.Proofs.YthnimpbcfegmjaaW.PrintLast Go.Proofs.YthnimpbcfegmjaaW.PrintMore Go.Proofs.Ythnimpbcfegmjaa.P Go.Proofs.Ythnimpbcfegmjaa.Model
set_option linter.unusedVariables false
set_option linter.unusedSimpArgs false
attribute [local go_sem] max2_int min2_int max_two min_two max_three min_three max_four min_four

def SysP (P : Nat → Bool) (s : Syst) (w : World) (e : Ending) (w' : World) : Prop := ∃ p, e = .returned (.agg (sysA s p)) ∧ SysC (hid P w') s p ∧ Below w.heap.size w w'
def chTo (s : Syst) (k : Nat) : List (List Int) := (s.ch.take k).map cut12
theorem chTo_succ {s : Syst} {k : Nat} {x : List Int} (h : s.ch[k]? = some x) : chTo s (k + 1) = chTo s k ++ [cut12 x] := by
  unfold chTo
  rw [List.take_add_one, h, List.map_append]
  rfl
theorem chTo_len {s : Syst} {k : Nat} (h : k ≤ s.ch.length) : (chTo s k).length = k := by unfold chTo; rw [List.length_map, List.length_take]; omega
theorem inner_add {w0 : World} {us : List Value} {xs : List (List Int)} (h : Inner w0 us xs) (hl : us.length = xs.length) {x : List Int} {A : Option Addr} {c : Nat} (hc : x.length ≤ c) (hx : CI w0 A x) : Inner w0 (us ++ [.slice A x.length c]) (xs ++ [x]) := by
  intro j y u hy hu
  by_cases hj : j < xs.length
  · rw [List.getElem?_append_left hj] at hy
    rw [List.getElem?_append_left (by omega)] at hu
    exact h j y u hy hu
  · rw [List.getElem?_append_right (by omega)] at hy hu
    rw [hl] at hu
    match hd : j - xs.length, hy, hu with
    | 0, hy, hu =>
      simp only [hd, List.getElem?_cons_zero, Option.some.injEq] at hy hu
      subst hy hu
      exact ⟨A, c, rfl, hc, hx⟩
    | n + 1, hy, hu => simp [hd] at hy
set_option maxRecDepth 100000 in
set_option maxHeartbeats 8000000 in
theorem few_calls (P : Nat → Bool) (s : Syst) (p : Ad) (w : World) (hC0 : SysC (hid P w) s p) (hP : ∀ k, P k = true → k < w.heap.size) : Calls Try.prog 8 #[.agg (sysA s p)] w (SysP P (fewS s) w) := by
  have HP := Aside0.mk hP
  have hB1 : Below w.heap.size w (w.alloc (.cells (sysA s p) 26)) := (Below.refl _ _).alloc (Nat.le_refl _) _
  have hB2 := hB1.alloc hB1.size (.cells #[.slice none 0 0, .slice none 0 0, .slice none 0 0, .slice none 0 0, .slice none 0 0, .slice none 0 0] 26)
  have HB := Aside0.mk hB2
  have HC1 := Aside0.mk hC0.h1
  have HC2 := Aside0.mk hC0.h2
  have HC3 := Aside0.mk hC0.h3
  have HC4 := Aside0.mk hC0.h4
  have HC0 := Aside0.mk hC0
  have HG : Aside0 (((w.alloc (.cells (sysA s p) 26)).alloc (.cells #[.slice none 0 0, .slice none 0 0, .slice none 0 0, .slice none 0 0, .slice none 0 0, .slice none 0 0] 26)).heap[w.heap.size]? = some (.cells (sysA s p) 26 (0, 0))) := ⟨blk_alloc (blk_new w _) _⟩
  have HZ : Aside0 (((w.alloc (.cells (sysA s p) 26)).alloc (.cells #[.slice none 0 0, .slice none 0 0, .slice none 0 0, .slice none 0 0, .slice none 0 0, .slice none 0 0] 26)).heap[w.heap.size + 1]? = some (.cells #[.slice none 0 0, .slice none 0 0, .slice none 0 0, .slice none 0 0, .slice none 0 0, .slice none 0 0] 26 (0, 0))) := ⟨by
    have h1 := blk_new (w.alloc (.cells (sysA s p) 26)) (.cells #[.slice none 0 0, .slice none 0 0, .slice none 0 0, .slice none 0 0, .slice none 0 0, .slice none 0 0] 26)
    have hsz : (w.alloc (.cells (sysA s p) 26)).heap.size = w.heap.size + 1 := by simp
    rw [hsz] at h1
    exact h1⟩
  obtain ⟨Q, HQ⟩ : ∃ Q : Nat → Bool, Q = fun k => P k || (k == w.heap.size || k == w.heap.size + 1) := ⟨_, rfl⟩
  have HQP : Aside0 (∀ k, P k = true → Q k = true) := ⟨fun k hk => by simp [HQ, hk]⟩
  have HQG : Aside0 (Q w.heap.size = true) := ⟨by simp [HQ]⟩
  have HQZ : Aside0 (Q (w.heap.size + 1) = true) := ⟨by simp [HQ]⟩
  have HQW : Aside0 (∀ k, k < w.heap.size → Q k = true → P k = true) := ⟨fun k hk h => by
    subst HQ
    simp only [Bool.or_eq_true, beq_iff_eq] at h
    rcases h with h | h | h
    · exact h
    · omega
    · omega⟩
  have HQN : Aside0 (∀ k, (P k = false ∧ k < w.heap.size) ∨ w.heap.size + 2 ≤ k → Q k = false) := ⟨fun k hk => by
    subst HQ
    cases hp : P k with
    | true =>
      have := hP k hp
      rw [hp] at hk
      rcases hk with ⟨hk, _⟩ | hk
      · cases hk
      · omega
    | false =>
      have h1 : k ≠ w.heap.size := by rcases hk with ⟨_, hk⟩ | hk <;> omega
      have h2 : k ≠ w.heap.size + 1 := by rcases hk with ⟨_, hk⟩ | hk <;> omega
      simp [hp, h1, h2]⟩
  have HQL : Aside0 (∀ k, Q k = true → k < w.heap.size + 2) := ⟨fun k hk => by
    subst HQ
    simp only [Bool.or_eq_true, beq_iff_eq] at hk
    rcases hk with h | h | h
    · have := hP k h; omega
    · omega
    · omega⟩
  clear HQ
  have HRW : Aside0 (∀ W, Below w.heap.size w W → W.heap.size = w.heap.size + 2 → Calls Try.prog 19 #[.slice p.a0 s.th.length p.c0] W (fun e w' => ∃ A c, e = .returned (.slice A (rowsL s.th).length c) ∧ (rowsL s.th).length ≤ c ∧ CT (hid Q w') A (rowsL s.th) ∧ Below W.heap.size W w')) := ⟨fun W hb hs => (downpourlaw20_rows.calls 11 _ p.a0 p.c0 s.th (rowsL s.th) W (V_of_hid hC0.r0 hC0.h0 hb) (rows_f _ _ (by decide))).mono (by
    rintro e w' ⟨v0, rfl, hN, hb2⟩
    obtain ⟨A, c, rfl, h1, h2⟩ := hid_of_N hN (fun k hk => HQN.out k (by rw [hs] at hk; exact hk))
    exact ⟨A, c, rfl, h1, h2, hb2⟩)⟩
  clear hC0 hP hB1 hB2
  have HCh5 := Aside0.mk HC0.out.h5
  obtain ⟨a0, c0, a1, c1, a2, c2, a3, c3, a4, c4, a5, c5⟩ := p
  unfold sysA at *
  dsimp only at *
  have qE : ∀ W : World, (Instr.slice 24 (.slice a5 s.ch.length c5) none (some (.int .i64 ((min s.ch.length 6 : Nat) : Int))) none).run Try.prog W = .ok (.slice a5 (min s.ch.length 6) c5) W := fun W => by
    obtain ⟨i, hi, hz0, -⟩ := info_parts info23
    exact cut_to (P := Try.prog) 24 23 .i64 Try.underlying24 hi a5 s.ch.length c5 ((min s.ch.length 6 : Nat) : Int) (by omega) (by omega) HCh5.out W
  have qM : (if 6 < (s.ch.length : Int) then (6 : Int) else (s.ch.length : Int)) = ((min s.ch.length 6 : Nat) : Int) := by split <;> omega
  have HMX : Aside0 (min s.ch.length 6 = (s.ch.take 6).length) := ⟨by rw [List.length_take]; omega⟩
  go_enter Try.func8, Try.ntmps8
  obtain ⟨q0, q1, q2, q3, q4, q5⟩ := six_cells HG.out
  obtain ⟨x0, x1, x2, x3, x4, x5⟩ := six_frozen HG.out
  go_wp2_with (go_at_call 19; refine (HRW.out _ HB.out (by simp)).mono ?_; rintro e w1 ⟨aT, cT, rfl, hcT, hT, hb⟩; have HT := Aside0.mk hT; have HCT := Aside0.mk hcT; replace HG := Aside0.mk (blk_below HG.out hb); replace HZ := Aside0.mk (blk_below HZ.out hb); replace HB := Aside0.mk (HB.out.trans (hb.mono HB.out.size)); clear hb hT hcT q0 q1 q2 q3 q4 q5 x0 x1 x2 x3 x4 x5; obtain ⟨q0, q1, q2, q3, q4, q5⟩ := six_cells HG.out; obtain ⟨x0, x1, x2, x3, x4, x5⟩ := six_frozen HG.out)
  clear q0 q1 q2 q3 q4 q5 x0 x1 x2 x3 x4 x5
  replace HG := Aside0.mk (show (w1.setCell ⟨w.heap.size, 0, none⟩ (.slice aT (rowsL s.th).length cT)).heap[w.heap.size]? = some (.cells #[.slice aT (rowsL s.th).length cT, .slice a1 s.at_.length c1, .slice a2 s.su.length c2, .slice a3 s.lo.length c3, .slice a4 s.ce.length c4, .slice a5 s.ch.length c5] 26 (0, 0)) from blk_put HG.out 0 _ rfl)
  replace HZ := Aside0.mk (blk_far HZ.out (p := ⟨w.heap.size, 0, none⟩) (Nat.succ_ne_self _) (.slice aT (rowsL s.th).length cT))
  replace HT := Aside0.mk (CT_up HT.out (up_hid_put (q := ⟨w.heap.size, 0, none⟩) HQG.out (.slice aT (rowsL s.th).length cT)))
  replace HB := Aside0.mk (below_put (k := 0) HB.out (Nat.le_refl _) (.slice aT (rowsL s.th).length cT))
  generalize w1.setCell ⟨w.heap.size, 0, none⟩ (.slice aT (rowsL s.th).length cT) = w2 at *
  obtain ⟨q0, q1, q2, q3, q4, q5⟩ := six_cells HG.out
  clear q0 q5
  refine start_ (n := 24) (S := fun w' => w'.cell? ⟨w.heap.size, 1, none⟩ = some (.slice a1 s.at_.length c1) ∧ w'.cell? ⟨w.heap.size, 2, none⟩ = some (.slice a2 s.su.length c2) ∧ w'.cell? ⟨w.heap.size, 3, none⟩ = some (.slice a3 s.lo.length c3) ∧ w'.cell? ⟨w.heap.size, 4, none⟩ = some (.slice a4 s.ce.length c4)) (ds := [17, 19, 21, 23]) #[false, false, false, false, false, false, false, false, false, false, false, false, false, false, false, false, false, false, false, false, false, false, false, false] (by kernel_rfl) rfl rfl ⟨q1, q2, q3, q4⟩ (fun hHeld => ?_)
  replace HG := Aside0.mk (blk_drew HG.out)
  replace HZ := Aside0.mk (blk_drew HZ.out)
  replace HT := Aside0.mk (CT_up HT.out (up_hid (below_drew (Below.refl _ _)) (fun _ _ h => h)))
  replace HB := Aside0.mk (below_drew HB.out)
  clear q1 q2 q3 q4
  generalize w2.drew = v0 at *
  refine pure_ (i := 0) (N := some 11) (v := ?_) (a' := ?_) #[true, false, false, false, false, false, false, false, false, false, false, false, false, false, false, false, false, false, false, false, false, false, false, false] rfl rfl (by kernel_rfl) (fun _ _ _ h => h) (Or.inl ⟨by rfl, ?_⟩) ?_ ?_
  rotate_left
  · intro w'
    go_simp
    with_reducible rfl
  rotate_left
  · simp only [Act.put, List.setIfInBounds_toArray, List.set_cons_zero, List.set_cons_succ, i64_w, i32_w]
    rfl
  refine pure_ (i := 1) (N := some 12) (v := ?_) (a' := ?_) #[true, true, false, false, false, false, false, false, false, false, false, false, false, false, false, false, false, false, false, false, false, false, false, false] rfl rfl (by kernel_rfl) (fun _ _ _ h => h) (Or.inl ⟨by rfl, ?_⟩) ?_ ?_
  rotate_left
  · intro w'
    go_simp
    with_reducible rfl
  rotate_left
  · simp only [Act.put, List.setIfInBounds_toArray, List.set_cons_zero, List.set_cons_succ, i64_w, i32_w]
    rfl
  refine pure_ (i := 4) (N := some 15) (v := ?_) (a' := ?_) #[true, true, false, false, true, false, false, false, false, false, false, false, false, false, false, false, false, false, false, false, false, false, false, false] rfl rfl (by kernel_rfl) (fun _ _ _ h => h) (Or.inl ⟨by rfl, ?_⟩) ?_ ?_
  rotate_left
  · intro w'
    go_simp
    with_reducible rfl
  rotate_left
  · simp only [Act.put, List.setIfInBounds_toArray, List.set_cons_zero, List.set_cons_succ, i64_w, i32_w]
    rfl
  refine pure_ (i := 5) (N := some 16) (v := ?_) (a' := ?_) #[true, true, false, false, true, true, false, false, false, false, false, false, false, false, false, false, false, false, false, false, false, false, false, false] rfl rfl (by kernel_rfl) (fun _ _ _ h => h) (Or.inl ⟨by rfl, ?_⟩) ?_ ?_
  rotate_left
  · intro w'
    go_simp
    with_reducible rfl
  rotate_left
  · simp only [Act.put, List.setIfInBounds_toArray, List.set_cons_zero, List.set_cons_succ, i64_w, i32_w]
    rfl
  refine pure_ (i := 8) (N := some 19) (v := ?_) (a' := ?_) #[true, true, false, false, true, true, false, false, true, false, false, false, false, false, false, false, false, false, false, false, false, false, false, false] rfl rfl (by kernel_rfl) (fun _ _ _ h => h) (Or.inl ⟨by rfl, ?_⟩) ?_ ?_
  rotate_left
  · intro w'
    go_simp
    with_reducible rfl
  rotate_left
  · simp only [Act.put, List.setIfInBounds_toArray, List.set_cons_zero, List.set_cons_succ, i64_w, i32_w]
    rfl
  refine pure_ (i := 9) (N := some 20) (v := ?_) (a' := ?_) #[true, true, false, false, true, true, false, false, true, true, false, false, false, false, false, false, false, false, false, false, false, false, false, false] rfl rfl (by kernel_rfl) (fun _ _ _ h => h) (Or.inl ⟨by rfl, ?_⟩) ?_ ?_
  rotate_left
  · intro w'
    go_simp
    with_reducible rfl
  rotate_left
  · simp only [Act.put, List.setIfInBounds_toArray, List.set_cons_zero, List.set_cons_succ, i64_w, i32_w]
    rfl
  refine pure_ (i := 12) (N := some 23) (v := ?_) (a' := ?_) #[true, true, false, false, true, true, false, false, true, true, false, false, true, false, false, false, false, false, false, false, false, false, false, false] rfl rfl (by kernel_rfl) (fun _ _ _ h => h) (Or.inl ⟨by rfl, ?_⟩) ?_ ?_
  rotate_left
  · intro w'
    go_simp
    with_reducible rfl
  rotate_left
  · simp only [Act.put, List.setIfInBounds_toArray, List.set_cons_zero, List.set_cons_succ, i64_w, i32_w]
    rfl
  refine pure_ (i := 13) (N := some 24) (v := ?_) (a' := ?_) #[true, true, false, false, true, true, false, false, true, true, false, false, true, true, false, false, false, false, false, false, false, false, false, false] rfl rfl (by kernel_rfl) (fun _ _ _ h => h) (Or.inl ⟨by rfl, ?_⟩) ?_ ?_
  rotate_left
  · intro w'
    go_simp
    with_reducible rfl
  rotate_left
  · simp only [Act.put, List.setIfInBounds_toArray, List.set_cons_zero, List.set_cons_succ, i64_w, i32_w]
    rfl
  refine take_ (i := 2) (N := some 13) (v := ?_) (a' := ?_) #[true, true, true, false, true, true, false, false, true, true, false, false, true, true, false, false, false, false, false, false, false, false, false, false] rfl rfl (by kernel_rfl) (fun _ _ _ h => h) (Or.inl ⟨by rfl, ?_⟩) hHeld ?_ ?_
  rotate_left
  · rintro w' ⟨s0, s1, s2, s3⟩
    go_simp
    with_reducible rfl
  rotate_left
  · simp only [Act.put, List.setIfInBounds_toArray, List.set_cons_zero, List.set_cons_succ, i64_w, i32_w]
    rfl
  refine take_ (i := 6) (N := some 17) (v := ?_) (a' := ?_) #[true, true, true, false, true, true, true, false, true, true, false, false, true, true, false, false, false, false, false, false, false, false, false, false] rfl rfl (by kernel_rfl) (fun _ _ _ h => h) (Or.inl ⟨by rfl, ?_⟩) hHeld ?_ ?_
  rotate_left
  · rintro w' ⟨s0, s1, s2, s3⟩
    go_simp
    with_reducible rfl
  rotate_left
  · simp only [Act.put, List.setIfInBounds_toArray, List.set_cons_zero, List.set_cons_succ, i64_w, i32_w]
    rfl
  refine take_ (i := 10) (N := some 21) (v := ?_) (a' := ?_) #[true, true, true, false, true, true, true, false, true, true, true, false, true, true, false, false, false, false, false, false, false, false, false, false] rfl rfl (by kernel_rfl) (fun _ _ _ h => h) (Or.inl ⟨by rfl, ?_⟩) hHeld ?_ ?_
  rotate_left
  · rintro w' ⟨s0, s1, s2, s3⟩
    go_simp
    with_reducible rfl
  rotate_left
  · simp only [Act.put, List.setIfInBounds_toArray, List.set_cons_zero, List.set_cons_succ, i64_w, i32_w]
    rfl
  refine take_ (i := 14) (N := some 25) (v := ?_) (a' := ?_) #[true, true, true, false, true, true, true, false, true, true, true, false, true, true, true, false, false, false, false, false, false, false, false, false] rfl rfl (by kernel_rfl) (fun _ _ _ h => h) (Or.inl ⟨by rfl, ?_⟩) hHeld ?_ ?_
  rotate_left
  · rintro w' ⟨s0, s1, s2, s3⟩
    go_simp
    with_reducible rfl
  rotate_left
  · simp only [Act.put, List.setIfInBounds_toArray, List.set_cons_zero, List.set_cons_succ, i64_w, i32_w]
    rfl
  refine one_ (i := 3) (N := some 14) #[true, true, true, true, true, true, true, false, true, true, true, false, true, true, true, false, false, false, false, false, false, false, false, false] rfl rfl (by kernel_rfl) (by decide) (fun K hK => ?_)
  refine goesD_ Try.func31 (by kernel_rfl) rfl #[.slice a1 s.at_.length c1] (by rfl) rfl rfl rfl (by (try simp only [List.map_toArray, List.map_cons, List.map_nil]); first | done | rfl) ?_
  refine (fewI_calls a1 c1 s.at_ _ HC1.out).mono ?_
  rintro e u1 ⟨rfl, hu⟩
  subst u1
  refine ⟨_, rfl, ?_⟩
  refine hK.out _ _ hHeld (fun hHeld => ?_)
  clear hK K
  refine norm_ (a' := ?_) ?_ ?_
  rotate_left
  · show Act.put _ (some 14) _ = _
    simp only [Act.put, List.setIfInBounds_toArray, List.set_cons_zero, List.set_cons_succ, i64_w, i32_w]
    rfl
  refine pure_ (i := 16) (N := some 27) (v := ?_) (a' := ?_) #[true, true, true, true, true, true, true, false, true, true, true, false, true, true, true, false, true, false, false, false, false, false, false, false] rfl rfl (by kernel_rfl) (fun _ _ _ h => h) (Or.inl ⟨by rfl, ?_⟩) ?_ ?_
  rotate_left
  · intro w'
    go_simp
    with_reducible rfl
  rotate_left
  · simp only [Act.put, List.setIfInBounds_toArray, List.set_cons_zero, List.set_cons_succ, i64_w, i32_w]
    rfl
  refine one_ (i := 7) (N := some 18) #[true, true, true, true, true, true, true, true, true, true, true, false, true, true, true, false, true, false, false, false, false, false, false, false] rfl rfl (by kernel_rfl) (by decide) (fun K hK => ?_)
  refine goesD_ Try.func31 (by kernel_rfl) rfl #[.slice a2 s.su.length c2] (by rfl) rfl rfl rfl (by (try simp only [List.map_toArray, List.map_cons, List.map_nil]); first | done | rfl) ?_
  refine (fewI_calls a2 c2 s.su _ HC2.out).mono ?_
  rintro e u2 ⟨rfl, hu⟩
  subst u2
  refine ⟨_, rfl, ?_⟩
  refine hK.out _ _ hHeld (fun hHeld => ?_)
  clear hK K
  refine norm_ (a' := ?_) ?_ ?_
  rotate_left
  · show Act.put _ (some 18) _ = _
    simp only [Act.put, List.setIfInBounds_toArray, List.set_cons_zero, List.set_cons_succ, i64_w, i32_w]
    rfl
  refine one_ (i := 11) (N := some 22) #[true, true, true, true, true, true, true, true, true, true, true, true, true, true, true, false, true, false, false, false, false, false, false, false] rfl rfl (by kernel_rfl) (by decide) (fun K hK => ?_)
  refine goesD_ Try.func31 (by kernel_rfl) rfl #[.slice a3 s.lo.length c3] (by rfl) rfl rfl rfl (by (try simp only [List.map_toArray, List.map_cons, List.map_nil]); first | done | rfl) ?_
  refine (fewI_calls a3 c3 s.lo _ HC3.out).mono ?_
  rintro e u3 ⟨rfl, hu⟩
  subst u3
  refine ⟨_, rfl, ?_⟩
  refine hK.out _ _ hHeld (fun hHeld => ?_)
  clear hK K
  refine norm_ (a' := ?_) ?_ ?_
  rotate_left
  · show Act.put _ (some 22) _ = _
    simp only [Act.put, List.setIfInBounds_toArray, List.set_cons_zero, List.set_cons_succ, i64_w, i32_w]
    rfl
  refine one_ (i := 15) (N := some 26) #[true, true, true, true, true, true, true, true, true, true, true, true, true, true, true, true, true, false, false, false, false, false, false, false] rfl rfl (by kernel_rfl) (by decide) (fun K hK => ?_)
  refine goesD_ Try.func31 (by kernel_rfl) rfl #[.slice a4 s.ce.length c4] (by rfl) rfl rfl rfl (by (try simp only [List.map_toArray, List.map_cons, List.map_nil]); first | done | rfl) ?_
  refine (fewI_calls a4 c4 s.ce _ HC4.out).mono ?_
  rintro e u4 ⟨rfl, hu⟩
  subst u4
  refine ⟨_, rfl, ?_⟩
  refine hK.out _ _ hHeld (fun hHeld => ?_)
  clear hK K
  refine norm_ (a' := ?_) ?_ ?_
  rotate_left
  · show Act.put _ (some 26) _ = _
    simp only [Act.put, List.setIfInBounds_toArray, List.set_cons_zero, List.set_cons_succ, i64_w, i32_w]
    rfl
  refine last_ (i := 17) (N := none) #[true, true, true, true, true, true, true, true, true, true, true, true, true, true, true, true, true, true, false, false, false, false, false, false] rfl rfl (by kernel_rfl) (by decide) (fun K hK => ?_)
  clear hHeld
  have hc : v0.cell? ⟨w.heap.size, 1, none⟩ = some (.slice a1 s.at_.length c1) := blk_cell HG.out 1
  have hf := blk_frozen HG.out 1
  refine skip_ (w1 := ?_) (by rfl) rfl ?_ ?_
  rotate_left
  · go_simp
    rfl
  refine hK.out _ _ ?_
  clear hK K
  clear hc hf
  replace HG := Aside0.mk (show (v0.setCell ⟨w.heap.size, 1, none⟩ (.slice a1 (cut12 s.at_).length c1)).heap[w.heap.size]? = some (.cells #[.slice aT (rowsL s.th).length cT, .slice a1 (cut12 s.at_).length c1, .slice a2 s.su.length c2, .slice a3 s.lo.length c3, .slice a4 s.ce.length c4, .slice a5 s.ch.length c5] 26 (0, 0)) from blk_put HG.out 1 _ rfl)
  replace HZ := Aside0.mk (blk_far HZ.out (p := ⟨w.heap.size, 1, none⟩) (Nat.succ_ne_self _) (.slice a1 (cut12 s.at_).length c1))
  replace HT := Aside0.mk (CT_up HT.out (up_hid_put (q := ⟨w.heap.size, 1, none⟩) HQG.out (.slice a1 (cut12 s.at_).length c1)))
  replace HB := Aside0.mk (below_put (k := 1) HB.out (Nat.le_refl _) (.slice a1 (cut12 s.at_).length c1))
  generalize v0.setCell ⟨w.heap.size, 1, none⟩ (.slice a1 (cut12 s.at_).length c1) = v1 at *
  refine pure_ (i := 18) (N := some 28) (v := ?_) (a' := ?_) #[true, true, true, true, true, true, true, true, true, true, true, true, true, true, true, true, true, true, true, false, false, false, false, false] rfl rfl (by kernel_rfl) (fun _ _ _ h => h) (Or.inl ⟨by rfl, ?_⟩) ?_ ?_
  rotate_left
  · intro w'
    go_simp
    with_reducible rfl
  rotate_left
  · simp only [Act.put, List.setIfInBounds_toArray, List.set_cons_zero, List.set_cons_succ, i64_w, i32_w]
    rfl
  refine last_ (i := 19) (N := none) #[true, true, true, true, true, true, true, true, true, true, true, true, true, true, true, true, true, true, true, true, false, false, false, false] rfl rfl (by kernel_rfl) (by decide) (fun K hK => ?_)
  skip
  have hc : v1.cell? ⟨w.heap.size, 2, none⟩ = some (.slice a2 s.su.length c2) := blk_cell HG.out 2
  have hf := blk_frozen HG.out 2
  refine skip_ (w1 := ?_) (by rfl) rfl ?_ ?_
  rotate_left
  · go_simp
    rfl
  refine hK.out _ _ ?_
  clear hK K
  clear hc hf
  replace HG := Aside0.mk (show (v1.setCell ⟨w.heap.size, 2, none⟩ (.slice a2 (cut12 s.su).length c2)).heap[w.heap.size]? = some (.cells #[.slice aT (rowsL s.th).length cT, .slice a1 (cut12 s.at_).length c1, .slice a2 (cut12 s.su).length c2, .slice a3 s.lo.length c3, .slice a4 s.ce.length c4, .slice a5 s.ch.length c5] 26 (0, 0)) from blk_put HG.out 2 _ rfl)
  replace HZ := Aside0.mk (blk_far HZ.out (p := ⟨w.heap.size, 2, none⟩) (Nat.succ_ne_self _) (.slice a2 (cut12 s.su).length c2))
  replace HT := Aside0.mk (CT_up HT.out (up_hid_put (q := ⟨w.heap.size, 2, none⟩) HQG.out (.slice a2 (cut12 s.su).length c2)))
  replace HB := Aside0.mk (below_put (k := 2) HB.out (Nat.le_refl _) (.slice a2 (cut12 s.su).length c2))
  generalize v1.setCell ⟨w.heap.size, 2, none⟩ (.slice a2 (cut12 s.su).length c2) = v2 at *
  refine pure_ (i := 20) (N := some 29) (v := ?_) (a' := ?_) #[true, true, true, true, true, true, true, true, true, true, true, true, true, true, true, true, true, true, true, true, true, false, false, false] rfl rfl (by kernel_rfl) (fun _ _ _ h => h) (Or.inl ⟨by rfl, ?_⟩) ?_ ?_
  rotate_left
  · intro w'
    go_simp
    with_reducible rfl
  rotate_left
  · simp only [Act.put, List.setIfInBounds_toArray, List.set_cons_zero, List.set_cons_succ, i64_w, i32_w]
    rfl
  refine last_ (i := 21) (N := none) #[true, true, true, true, true, true, true, true, true, true, true, true, true, true, true, true, true, true, true, true, true, true, false, false] rfl rfl (by kernel_rfl) (by decide) (fun K hK => ?_)
  skip
  have hc : v2.cell? ⟨w.heap.size, 3, none⟩ = some (.slice a3 s.lo.length c3) := blk_cell HG.out 3
  have hf := blk_frozen HG.out 3
  refine skip_ (w1 := ?_) (by rfl) rfl ?_ ?_
  rotate_left
  · go_simp
    rfl
  refine hK.out _ _ ?_
  clear hK K
  clear hc hf
  replace HG := Aside0.mk (show (v2.setCell ⟨w.heap.size, 3, none⟩ (.slice a3 (cut12 s.lo).length c3)).heap[w.heap.size]? = some (.cells #[.slice aT (rowsL s.th).length cT, .slice a1 (cut12 s.at_).length c1, .slice a2 (cut12 s.su).length c2, .slice a3 (cut12 s.lo).length c3, .slice a4 s.ce.length c4, .slice a5 s.ch.length c5] 26 (0, 0)) from blk_put HG.out 3 _ rfl)
  replace HZ := Aside0.mk (blk_far HZ.out (p := ⟨w.heap.size, 3, none⟩) (Nat.succ_ne_self _) (.slice a3 (cut12 s.lo).length c3))
  replace HT := Aside0.mk (CT_up HT.out (up_hid_put (q := ⟨w.heap.size, 3, none⟩) HQG.out (.slice a3 (cut12 s.lo).length c3)))
  replace HB := Aside0.mk (below_put (k := 3) HB.out (Nat.le_refl _) (.slice a3 (cut12 s.lo).length c3))
  generalize v2.setCell ⟨w.heap.size, 3, none⟩ (.slice a3 (cut12 s.lo).length c3) = v3 at *
  refine pure_ (i := 22) (N := some 30) (v := ?_) (a' := ?_) #[true, true, true, true, true, true, true, true, true, true, true, true, true, true, true, true, true, true, true, true, true, true, true, false] rfl rfl (by kernel_rfl) (fun _ _ _ h => h) (Or.inl ⟨by rfl, ?_⟩) ?_ ?_
  rotate_left
  · intro w'
    go_simp
    with_reducible rfl
  rotate_left
  · simp only [Act.put, List.setIfInBounds_toArray, List.set_cons_zero, List.set_cons_succ, i64_w, i32_w]
    rfl
  refine last_ (i := 23) (N := none) #[true, true, true, true, true, true, true, true, true, true, true, true, true, true, true, true, true, true, true, true, true, true, true, true] rfl rfl (by kernel_rfl) (by decide) (fun K hK => ?_)
  skip
  have hc : v3.cell? ⟨w.heap.size, 4, none⟩ = some (.slice a4 s.ce.length c4) := blk_cell HG.out 4
  have hf := blk_frozen HG.out 4
  refine skip_ (w1 := ?_) (by rfl) rfl ?_ ?_
  rotate_left
  · go_simp
    rfl
  refine hK.out _ _ ?_
  clear hK K
  clear hc hf
  replace HG := Aside0.mk (show (v3.setCell ⟨w.heap.size, 4, none⟩ (.slice a4 (cut12 s.ce).length c4)).heap[w.heap.size]? = some (.cells #[.slice aT (rowsL s.th).length cT, .slice a1 (cut12 s.at_).length c1, .slice a2 (cut12 s.su).length c2, .slice a3 (cut12 s.lo).length c3, .slice a4 (cut12 s.ce).length c4, .slice a5 s.ch.length c5] 26 (0, 0)) from blk_put HG.out 4 _ rfl)
  replace HZ := Aside0.mk (blk_far HZ.out (p := ⟨w.heap.size, 4, none⟩) (Nat.succ_ne_self _) (.slice a4 (cut12 s.ce).length c4))
  replace HT := Aside0.mk (CT_up HT.out (up_hid_put (q := ⟨w.heap.size, 4, none⟩) HQG.out (.slice a4 (cut12 s.ce).length c4)))
  replace HB := Aside0.mk (below_put (k := 4) HB.out (Nat.le_refl _) (.slice a4 (cut12 s.ce).length c4))
  generalize v3.setCell ⟨w.heap.size, 4, none⟩ (.slice a4 (cut12 s.ce).length c4) = v4 at *
  refine done_ (by kernel_rfl) ?_
  have q5 : v4.cell? ⟨w.heap.size, 5, none⟩ = some (.slice a5 s.ch.length c5) := blk_cell HG.out 5
  have HGE : Aside0 (w.heap.size + 2 ≤ v4.heap.size) := ⟨blk_lt HZ.out⟩
  have HB0 : Aside0 (Below v4.heap.size v4 v4) := ⟨Below.refl _ _⟩
  go_wp2
  clear q5
  go_loopw [4, 39] (fun u4 u39 W => ∃ (k : Nat) (us : List Value), k ≤ min s.ch.length 6 ∧ u39 = .int .i64 k ∧ Aside0 (W.ownsRow v4.heap.size 23 1 u4 k us) ∧ Aside0 (Inner (hid P w) us (chTo s k)) ∧ Aside0 (Below v4.heap.size v4 W)) (fun _ u39 _ => min s.ch.length 6 - (intOf u39).toNat)
  case atStart => exact ⟨0, [], Nat.zero_le _, rfl, ⟨World.ownsRow_nil _ _ _ _⟩, ⟨fun j x u hx hu => by simp at hu⟩, HB0⟩
  case round => as_aux_lemma =>
    clear HB0
    obtain ⟨k, us, hk, rfl, HR, HI, HB5⟩ := hrel
    by_cases hlt : k < min s.ch.length 6
    · obtain ⟨x, hx⟩ : ∃ x, s.ch[k]? = some x := ⟨_, List.getElem?_eq_getElem (by omega)⟩
      have HUP := Aside0.mk ((hid_up P w).trans (up_below (HB.out.trans (HB5.out.mono HB.out.size))))
      obtain ⟨ad, A1, cc, rfl, t0, t1, t2⟩ := at_L3 HC0.out.r5 (k : Int) (by omega) (by omega)
      have e3 : rd_L3 s.ch (k : Int) = x := by unfold rd_L3; rw [Int.toNat_natCast, List.getD_eq_getElem?_getD, hx]; rfl
      rw [e3] at t0 t1 t2
      rw [Int.toNat_natCast] at t0
      replace t0 := HUP.out.cell t0
      have HT1 := Aside0.mk t1
      have HT2 := Aside0.mk (Kd.C_take t2 (m := min x.length 12) (by omega))
      rw [take_min] at HT2
      replace HT2 : Aside0 (CI (hid P w) A1 (cut12 x)) := HT2
      have HXL : Aside0 ((cut12 x).length ≤ cc) := ⟨by rw [cut12_len]; omega⟩
      have HUL : Aside0 (us.length = k) := ⟨by have := HR.out.1; omega⟩
      have HCS := Aside0.mk (chTo_succ hx)
      have hk6 : k < 6 := by omega
      have hkc := Aside0.mk (chTo_len (s := s) (k := k) (by omega))
      clear t1 t2 e3 hx
      obtain ⟨i0, hi, hz0, hz1, hz2⟩ := info_parts info23
      go_wp2_with (first | (go_at_call 31; refine (fewI_calls A1 cc x _ HT1.out).mono ?_; rintro e w' ⟨rfl, hu⟩; subst w') | (at_builtin; refine hold ?_))
      refine ⟨?_⟩
      have HBA : Aside0 (Below v4.heap.size v4 (wr.alloc (.cells #[.slice A1 (cut12 x).length cc] 23))) := ⟨HB5.out.alloc HB5.out.size _⟩
      refine wpList_append_own _ rfl _ _ 24 rfl v4.heap.size 23 i0 _ 1 24 Try.underlying24 hi hz0 hz1 hz2 rfl (by decide) _ k us rfl (below_row HR.out ((Below.refl _ _).alloc (Nat.le_refl _) _)) ⟨wr.heap.size, 0, none⟩ 1 1 [.slice A1 (cut12 x).length cc] rfl rfl (fun j u hu => by
        match j, hu with
        | 0, hu =>
          rw [add_plain, blk_cell (blk_new wr _)]
          exact hu
        | j + 1, hu => simp at hu) (fun u hu => by
        obtain rfl : u = _ := by simpa using hu
        rfl) (Nat.le_trans (show k + 1 ≤ 100001 by omega) (by decide)) (by omega) HBA.out.size ?_
      intro v1 w3 hown hgrow _
      have HB6 := Aside0.mk (HBA.out.grown hgrow HBA.out.size (fun r hr => own_base HR.out r hr))
      have HR6 := Aside0.mk hown
      clear hown hgrow
      go_wp2
      go_roundw
      case rel => exact ⟨k + 1, us ++ [.slice A1 (cut12 x).length cc], hlt, by go_num, HR6, ⟨by rw [HCS.out]; exact inner_add HI.out (by rw [HUL.out, hkc.out]) HXL.out HT2.out⟩, HB6⟩
      case measure => simp [intOf]; omega
    · obtain rfl : k = min s.ch.length 6 := by omega
      obtain ⟨B, d, rfl⟩ := row_slice HR.out
      have hg := blk_below HG.out HB5.out
      have hz := blk_below HZ.out HB5.out
      obtain ⟨q0, q1, q2, q3, q4, q5⟩ := six_cells hg
      obtain ⟨x0, x1, x2, x3, x4, x5⟩ := six_frozen hg
      obtain ⟨z0, z1, z2, z3, z4, z5⟩ := six_cells hz
      obtain ⟨y0, y1, y2, y3, y4, y5⟩ := six_frozen hz
      have HZ5 := Aside0.mk hz
      clear hg hz
      go_wp2
      refine bodyPost_ret (results_cell_row rfl _ _ (w.heap.size + 1) 26 _ (0, 0) _ rfl (six_put _ _ _ _ _ _ (blk_far HZ5.out (p := ⟨w.heap.size, 5, none⟩) (Nat.succ_ne_self _) _)) Try.underlying26 rfl (by kernel_rfl)) rfl ?_
      have HKL : Aside0 (min s.ch.length 6 = (fewS s).ch.length) := ⟨by show _ = ((s.ch.take 6).map cut12).length; rw [List.length_map, List.length_take]; omega⟩
      have HCH : chTo s (min s.ch.length 6) = (fewS s).ch := by unfold chTo; rw [take_min]; rfl
      have hbb := below_six (below_put (k := 5) (HB.out.trans (HB5.out.mono HB.out.size)) (Nat.le_refl _) (.slice B (min s.ch.length 6) d)) (Nat.le_succ _) (v0 := .slice aT (rowsL s.th).length cT) (v1 := .slice a1 (cut12 s.at_).length c1) (v2 := .slice a2 (cut12 s.su).length c2) (v3 := .slice a3 (cut12 s.lo).length c3) (v4 := .slice a4 (cut12 s.ce).length c4) (v5 := .slice B (min s.ch.length 6) d) (g := w.heap.size + 1)
      have hup : Up (hid P w) (hid P _) := up_hid hbb (fun _ _ h => h)
      have hrow := hid_row (P := P) (row_six (g := w.heap.size + 1) (v0 := .slice aT (rowsL s.th).length cT) (v1 := .slice a1 (cut12 s.at_).length c1) (v2 := .slice a2 (cut12 s.su).length c2) (v3 := .slice a3 (cut12 s.lo).length c3) (v4 := .slice a4 (cut12 s.ce).length c4) (v5 := .slice B (min s.ch.length 6) d) (own_low HR.out (p := ⟨w.heap.size, 5, none⟩) (Nat.lt_of_lt_of_le (Nat.lt_add_of_pos_right (by decide)) HGE.out) (.slice B (min s.ch.length 6) d)) (Nat.lt_of_lt_of_le (Nat.lt_succ_self _) HGE.out)) (fun k hk => Nat.lt_of_lt_of_le (Nat.lt_of_lt_of_le (HP.out k hk) (Nat.le_add_right _ 2)) HGE.out)
      have hT := CT_up HT.out ((up_hid HB5.out (fun _ _ h => h)).trans ((up_hid_put (q := ⟨w.heap.size, 5, none⟩) HQG.out (.slice B (min s.ch.length 6) d)).trans ((hid_six (g := w.heap.size + 1) HQZ.out (v0 := .slice aT (rowsL s.th).length cT) (v1 := .slice a1 (cut12 s.at_).length c1) (v2 := .slice a2 (cut12 s.su).length c2) (v3 := .slice a3 (cut12 s.lo).length c3) (v4 := .slice a4 (cut12 s.ce).length c4) (v5 := .slice B (min s.ch.length 6) d)).trans (hid_less _ HQP.out))))
      have cut : ∀ {A : Option Addr} {x : List Int}, CI (hid P w) A x → CI (hid P w) A (cut12 x) := fun {A x} h => by
        have h2 := Kd.C_take h (m := min x.length 12) (by omega)
        rw [take_min] at h2
        exact h2
      have lec : ∀ {x : List Int} {c : Nat}, x.length ≤ c → (cut12 x).length ≤ c := fun {x c} h => by rw [cut12_len]; omega
      have hI2 := HI.out
      rw [HCH] at hI2
      rw [HKL.out] at hrow
      obtain ⟨hr5, hl5⟩ := ownR_C (xs := (fewS s).ch) (by rw [HKL.out]; exact hrow) hI2 hup
      exact ⟨⟨aT, cT, a1, c1, a2, c2, a3, c3, a4, c4, B, d⟩, by rw [HKL.out]; rfl, ⟨hT, HCT.out, CI_up (cut HC0.out.r1) hup, lec HC0.out.h1, CI_up (cut HC0.out.r2) hup, lec HC0.out.h2, CI_up (cut HC0.out.r3) hup, lec HC0.out.h3, CI_up (cut HC0.out.r4) hup, lec HC0.out.h4, hr5, hl5⟩, hbb⟩
end Go.Proofs.Ythnimpbcfegmjaa.Own

/-
  The reference's Step, walked by hand: what it leaves is what the program's step leaves.
-/
import Derived.Test.YthnimpbcfegmjaaS20
namespace Go.Proofs.Ythnimpbcfegmjaa.Own
open Go.RowKit Go.Proofs.YthnimpbcfegmjaaW.PrintWords Go.Proofs.YthnimpbcfegmjaaW.PrintLast Go.Proofs.YthnimpbcfegmjaaW.PrintMore Go.Proofs.Ythnimpbcfegmjaa.P Go.Proofs.Ythnimpbcfegmjaa.Model
set_option linter.unusedVariables false
set_option linter.unusedSimpArgs false

section
variable {P : Program} {ops : Array Oper} {rest : List Oper} {o : Oper} {a : Act} {Q : Exit → Act → World → Prop} {w w1 : World}
theorem hold_store {t : TypeId} {x y : Operand} (ho : o.op = .store t x y) (h : Hold (wpList P ops Q (o :: rest) a w)) : wpList P ops Q (o :: rest) a w := h.out
theorem store_list (hg : o.guard = none) (hN : o.dst = none) (hrun : (execOp a.eval o).run P w = .ok .skip w1) (h : wpList P ops Q rest a w1) : wpList P ops Q (o :: rest) a w := by
  refine wpList_plain hg fun K hK => ?_
  unfold Oper.wp
  rw [hrun]
  refine hK _ _ ?_
  rw [hN]
  exact h
end
theorem end_step {P Q : Nat → Bool} {W : World} {g : Nat} {s : Syst} {p : Ad} {v0 v1 v2 v3 v4 v5 : Value} (h : SysC (hid Q W) s p) (hg : Q g = true) (hP : ∀ k, P k = true → Q k = true) : SysC (hid P ((((((W.setCell ⟨g, 0, none⟩ v0).setCell ⟨g, 1, none⟩ v1).setCell ⟨g, 2, none⟩ v2).setCell ⟨g, 3, none⟩ v3).setCell ⟨g, 4, none⟩ v4).setCell ⟨g, 5, none⟩ v5)) s p := h.up ((hid_six hg).trans (hid_less _ hP))
theorem ref_end {P Q : Nat → Bool} {w W : World} {s : Syst} {p : Ad} {v0 v1 v2 v3 v4 v5 : Value} (h : SysC (hid Q W) s p) (hg : Q (w.heap.size + 1) = true) (hP : ∀ k, P k = true → Q k = true) (hb : Below w.heap.size w W) :
    SysC (hid P ((((((W.setCell ⟨w.heap.size + 1, 0, none⟩ v0).setCell ⟨w.heap.size + 1, 1, none⟩ v1).setCell ⟨w.heap.size + 1, 2, none⟩ v2).setCell ⟨w.heap.size + 1, 3, none⟩ v3).setCell ⟨w.heap.size + 1, 4, none⟩ v4).setCell ⟨w.heap.size + 1, 5, none⟩ v5)) s p ∧ Below w.heap.size w ((((((W.setCell ⟨w.heap.size + 1, 0, none⟩ v0).setCell ⟨w.heap.size + 1, 1, none⟩ v1).setCell ⟨w.heap.size + 1, 2, none⟩ v2).setCell ⟨w.heap.size + 1, 3, none⟩ v3).setCell ⟨w.heap.size + 1, 4, none⟩ v4).setCell ⟨w.heap.size + 1, 5, none⟩ v5) :=
  ⟨end_step h hg hP, below_six hb (Nat.le_succ _)⟩
theorem rdC21 {l : List (List Int)} {i : Nat} {x : List Int} (h : l[i]? = some x) : rd_L3 l (i : Int) = x := by unfold rd_L3; rw [Int.toNat_natCast, List.getD_eq_getElem?_getD, h]; rfl
theorem doI_send (s1 : Syst) (t m : Nat) (n : Int) (y : List Int) (hy : s1.ch[m]? = some y) : doI s1 t ⟨3, m, n⟩ = { s1 with ch := s1.ch.set m (y ++ [n]) } := by
  unfold doI
  dsimp only
  rw [if_neg (by decide), if_neg (by decide), if_neg (by decide), if_pos rfl, Int.toNat_natCast, List.getD_eq_getElem?_getD, hy]
  rfl
theorem doI_recv (s1 : Syst) (t m : Nat) (n x y0 : Int) (y : List Int) (hx : s1.su[t]? = some x) (hy : s1.ch[m]? = some y) (h0 : y[0]? = some y0) : doI s1 t ⟨4, m, n⟩ = { s1 with su := s1.su.set t (wrap64 (x + y0)), ch := s1.ch.set m (y.drop 1) } := by
  unfold doI
  dsimp only
  rw [if_neg (by decide), if_neg (by decide), if_neg (by decide), if_neg (by decide), if_pos rfl, Int.toNat_natCast]
  simp only [List.getD_eq_getElem?_getD, hx, hy, h0, Option.getD_some]
set_option maxRecDepth 100000 in
set_option maxHeartbeats 16000000 in
theorem refStep_calls (P : Nat → Bool) (s : Syst) (p : Ad) (t : Nat) (i : S44) (w : World) (hC0 : SysC (hid P w) s p) (hP : ∀ k, P k = true → k < w.heap.size) (hS : Shp s) (ht : t < s.th.length) (hins : insA s t = some i) (hcan : canI s i = true) : Calls Try.prog 28 #[.agg (sysA s p), .int .i64 t] w (SysP P (stepS s t i) w) := by
  have hC := hC0.up (hid_up P w)
  have HC0 := Aside0.mk hC0
  have HP := Aside0.mk hP
  clear hC0 hP
  obtain ⟨l, hl⟩ : ∃ l, s.th[t]? = some l := ⟨_, List.getElem?_eq_getElem ht⟩
  have htA : t < s.at_.length := by have := hS.at_; omega
  obtain ⟨a, ha⟩ : ∃ a, s.at_[t]? = some a := ⟨_, List.getElem?_eq_getElem htA⟩
  obtain ⟨hl16, ha0, hal, hok⟩ := hS.th t l a hl ha
  obtain ⟨k, rfl⟩ : ∃ k : Nat, a = k := ⟨a.toNat, by omega⟩
  have hB1 : Below w.heap.size w (w.alloc (.cells (sysA s p) 26)) := (Below.refl _ _).alloc (Nat.le_refl _) _
  have HB1 := Aside0.mk hB1
  have HC := Aside0.mk hC
  have hi : l[k]? = some i := by unfold insA at hins; rw [hl, ha] at hins; simpa using hins
  have hk : k < l.length := (List.getElem?_eq_some_iff.1 hi).1
  have HINS := Aside0.mk hins
  have HCAN := Aside0.mk hcan
  have HAT := Aside0.mk ha
  have HTH := Aside0.mk hl
  have hcw := hC.below (hB1.alloc hB1.size (.cells #[.slice none 0 0, .slice none 0 0, .slice none 0 0, .slice none 0 0, .slice none 0 0, .slice none 0 0] 26))
  obtain ⟨ad, A1, cc, e0, t0, t1, t2⟩ := at_L2 hcw.r0 (t : Int) (by omega) (by omega)
  obtain ⟨ad1, e1, t3⟩ := Kd.at_int hcw.r1 (t : Int) (by omega) (by omega)
  rw [rdT hl] at t0 t1 t2
  rw [rdI ha] at t3
  rw [Int.toNat_natCast] at t0 t3
  have HS := Aside0.mk hS
  have HOI : Aside0 (okI i = true) := ⟨hok i (List.mem_of_getElem? hi)⟩
  obtain ⟨ad2, e2, u0, u1, u2⟩ := at_T44 t2 (k : Int) (by omega) (by omega)
  subst e2
  rw [rd44 hi, Int.toNat_natCast] at u0 u1 u2
  obtain ⟨a0, c0, a1, c1, a2, c2, a3, c3, a4, c4, a5, c5⟩ := p
  unfold sysA at *
  dsimp only at *
  subst e0 e1
  clear hC hcw hB1 hS ha hl hok hins hcan hi t2
  go_enter Try.func28, Try.ntmps28
  go_wp2
  have HG := Aside0.mk (blk_alloc (blk_new w (.cells #[.slice (some ad) s.th.length c0, .slice (some ad1) s.at_.length c1, .slice a2 s.su.length c2, .slice a3 s.lo.length c3, .slice a4 s.ce.length c4, .slice a5 s.ch.length c5] 26)) (.cells #[.slice none 0 0, .slice none 0 0, .slice none 0 0, .slice none 0 0, .slice none 0 0, .slice none 0 0] 26))
  have hz := blk_new (w.alloc (.cells #[.slice (some ad) s.th.length c0, .slice (some ad1) s.at_.length c1, .slice a2 s.su.length c2, .slice a3 s.lo.length c3, .slice a4 s.ce.length c4, .slice a5 s.ch.length c5] 26)) (.cells #[.slice none 0 0, .slice none 0 0, .slice none 0 0, .slice none 0 0, .slice none 0 0, .slice none 0 0] 26)
  have hsz : (w.alloc (.cells #[.slice (some ad) s.th.length c0, .slice (some ad1) s.at_.length c1, .slice a2 s.su.length c2, .slice a3 s.lo.length c3, .slice a4 s.ce.length c4, .slice a5 s.ch.length c5] 26)).heap.size = w.heap.size + 1 := by simp
  rw [hsz] at hz
  have HZ := Aside0.mk hz
  have HB2 := Aside0.mk (HB1.out.alloc HB1.out.size (.cells #[.slice none 0 0, .slice none 0 0, .slice none 0 0, .slice none 0 0, .slice none 0 0, .slice none 0 0] 26))
  have q0 : ((w.alloc (.cells #[.slice (some ad) s.th.length c0, .slice (some ad1) s.at_.length c1, .slice a2 s.su.length c2, .slice a3 s.lo.length c3, .slice a4 s.ce.length c4, .slice a5 s.ch.length c5] 26)).alloc (.cells #[.slice none 0 0, .slice none 0 0, .slice none 0 0, .slice none 0 0, .slice none 0 0, .slice none 0 0] 26)).cell? ⟨w.heap.size, 0, none⟩ = some (.slice (some ad) s.th.length c0) := blk_cell HG.out 0
  have q1 : ((w.alloc (.cells #[.slice (some ad) s.th.length c0, .slice (some ad1) s.at_.length c1, .slice a2 s.su.length c2, .slice a3 s.lo.length c3, .slice a4 s.ce.length c4, .slice a5 s.ch.length c5] 26)).alloc (.cells #[.slice none 0 0, .slice none 0 0, .slice none 0 0, .slice none 0 0, .slice none 0 0, .slice none 0 0] 26)).cell? ⟨w.heap.size, 1, none⟩ = some (.slice (some ad1) s.at_.length c1) := blk_cell HG.out 1
  clear hz hsz HB1
  generalize ((w.alloc (.cells #[.slice (some ad) s.th.length c0, .slice (some ad1) s.at_.length c1, .slice a2 s.su.length c2, .slice a3 s.lo.length c3, .slice a4 s.ce.length c4, .slice a5 s.ch.length c5] 26)).alloc (.cells #[.slice none 0 0, .slice none 0 0, .slice none 0 0, .slice none 0 0, .slice none 0 0, .slice none 0 0] 26)) = w2 at *
  have HWW : Aside0 (w.heap.size < w2.heap.size) := ⟨blk_lt HG.out⟩
  have HWZ : Aside0 (w.heap.size + 1 < w2.heap.size) := ⟨blk_lt HZ.out⟩
  have hBA := (Below.refl w2.heap.size w2).alloc (Nat.le_refl _) (.cells #[.int .i64 0, .int .i64 0, .int .i64 0] 44)
  have q0' := pw_cell_below hBA q0
  have q1' := pw_cell_below hBA q1
  have t0' := pw_cell_below hBA t0
  have t3' := pw_cell_below hBA t3
  have u0' := pw_cell_below hBA u0
  have u1' := pw_cell_below hBA u1
  have u2' := pw_cell_below hBA u2
  clear hBA
  go_wp2
  go_region
  clear q0 q1 t0 t3 u0 u1 u2 q0' q1' t0' t3' u0' u1' u2'
  have hB3 := (below_drew ((Below.refl w2.heap.size w2).alloc (Nat.le_refl _) (.cells #[.int .i64 i.f0, .int .i64 i.f1, .int .i64 i.f2] 44)))
  have HB3 := Aside0.mk (HB2.out.trans (hB3.mono HB2.out.size))
  replace HG := Aside0.mk (blk_below HG.out hB3)
  replace HZ := Aside0.mk (blk_below HZ.out hB3)
  have hI : ((w2.alloc (.cells #[.int .i64 i.f0, .int .i64 i.f1, .int .i64 i.f2] 44)).drew).heap[w2.heap.size]? = some (.cells #[.int .i64 i.f0, .int .i64 i.f1, .int .i64 i.f2] 44 (0, 0)) := blk_new w2 _
  have HI := Aside0.mk hI
  clear hI hB3
  generalize (w2.alloc (.cells #[.int .i64 i.f0, .int .i64 i.f1, .int .i64 i.f2] 44)).drew = w3 at *
  have HSZ : Aside0 (w2.heap.size + 1 ≤ w3.heap.size) := ⟨blk_lt HI.out⟩
  obtain ⟨Q, HQ⟩ : ∃ Q : Nat → Bool, Q = fun k => P k || (k == w.heap.size || (k == w.heap.size + 1 || k == w2.heap.size)) := ⟨_, rfl⟩
  have HQP : Aside0 (∀ k, P k = true → Q k = true) := ⟨fun k hk => by simp [HQ, hk]⟩
  have HQG : Aside0 (Q w.heap.size = true) := ⟨by simp [HQ]⟩
  have HQ1 : Aside0 (Q (w.heap.size + 1) = true) := ⟨by simp [HQ]⟩
  have HQB : Aside0 (∀ W : World, w2.heap.size + 1 ≤ W.heap.size → ∀ k, Q k = true → k < W.heap.size) := ⟨fun W hW k hk => by
    subst HQ
    have h1 := HWW.out
    have h2 := HWZ.out
    simp only [Bool.or_eq_true, beq_iff_eq] at hk
    rcases hk with h | h | h | h
    · have := HP.out k h; omega
    · omega
    · omega
    · omega⟩
  have HSY : Aside0 (SysC (hid Q w3) s ⟨some ad, c0, some ad1, c1, a2, c2, a3, c3, a4, c4, a5, c5⟩) := ⟨HC0.out.up (up_hid HB3.out (fun k hk h => by
    subst HQ
    have h1 := HWW.out
    simp only [Bool.or_eq_true, beq_iff_eq] at h
    rcases h with h | h | h | h
    · exact h
    · omega
    · omega
    · omega))⟩
  clear HQ HC HC0
  have HS8 : Aside0 (s.at_.length ≤ 8 ∧ s.su.length ≤ 8) := ⟨by have := HS.out.at_; have := HS.out.su; have := HS.out.n; omega⟩
  have HS4 : Aside0 (s.lo.length = 4 ∧ s.ce.length = 4 ∧ s.ch.length = 4) := ⟨⟨HS.out.lo, HS.out.ce, HS.out.ch⟩⟩
  have q1 : w3.cell? ⟨w.heap.size, 1, none⟩ = some (.slice (some ad1) s.at_.length c1) := blk_cell HG.out 1
  have t3 : w3.cell? (ad1.add t) = some (.int .i64 k) := by
    obtain ⟨ad1', e1, t3⟩ := Kd.at_int (HSY.out.up (hid_up _ _)).r1 (t : Int) (by omega) (by omega)
    injection e1 with e1
    subst e1
    rw [rdI HAT.out, Int.toNat_natCast] at t3
    exact t3
  have HKW : Aside0 (wrap64 ((k : Int) + 1) = (k : Int) + 1) := ⟨by unfold wrap64; omega⟩
  go_wp2
  refine start_ (n := 12) (S := fun w' => w'.cell? ⟨w.heap.size, 1, none⟩ = some (.slice (some ad1) s.at_.length c1) ∧ w'.cell? (ad1.add t) = some (.int .i64 k)) (ds := [11]) #[false, false, false, false, false, false, false, false, false, false, false, false] (by kernel_rfl) rfl rfl ⟨q1, t3⟩ (fun hHeld => ?_)
  replace HG := Aside0.mk (blk_drew HG.out)
  replace HZ := Aside0.mk (blk_drew HZ.out)
  replace HI := Aside0.mk (blk_drew HI.out)
  replace HSY := Aside0.mk (HSY.out.up (up_hid (below_drew (Below.refl _ _)) (fun _ _ h => h)))
  replace HB3 := Aside0.mk (below_drew HB3.out)
  replace HSZ : Aside0 (w2.heap.size + 1 ≤ w3.drew.heap.size) := ⟨HSZ.out⟩
  clear q1 t3
  generalize w3.drew = v3 at *
  refine pure_ (i := 0) (N := some 19) (v := ?_) (a' := ?_) #[true, false, false, false, false, false, false, false, false, false, false, false] rfl rfl (by kernel_rfl) (fun _ _ _ h => h) (Or.inl ⟨by rfl, ?_⟩) ?_ ?_
  rotate_left
  · intro w'
    go_simp
    with_reducible rfl
  rotate_left
  · simp only [Act.put, List.setIfInBounds_toArray, List.set_cons_zero, List.set_cons_succ, i64_w, i32_w]
    rfl
  refine pure_ (i := 2) (N := some 21) (v := ?_) (a' := ?_) #[true, false, true, false, false, false, false, false, false, false, false, false] rfl rfl (by kernel_rfl) (fun _ _ _ h => h) (Or.inl ⟨by rfl, ?_⟩) ?_ ?_
  rotate_left
  · intro w'
    go_simp
    with_reducible rfl
  rotate_left
  · simp only [Act.put, List.setIfInBounds_toArray, List.set_cons_zero, List.set_cons_succ, i64_w, i32_w]
    rfl
  refine pure_ (i := 3) (N := some 22) (v := ?_) (a' := ?_) #[true, false, true, true, false, false, false, false, false, false, false, false] rfl rfl (by kernel_rfl) (fun _ _ _ h => h) (Or.inl ⟨by rfl, ?_⟩) ?_ ?_
  rotate_left
  · intro w'
    go_simp
    with_reducible rfl
  rotate_left
  · simp only [Act.put, List.setIfInBounds_toArray, List.set_cons_zero, List.set_cons_succ, i64_w, i32_w]
    rfl
  refine pure_ (i := 5) (N := some 24) (v := ?_) (a' := ?_) #[true, false, true, true, false, true, false, false, false, false, false, false] rfl rfl (by kernel_rfl) (fun _ _ _ h => h) (Or.inl ⟨by rfl, ?_⟩) ?_ ?_
  rotate_left
  · intro w'
    go_simp
    with_reducible rfl
  rotate_left
  · simp only [Act.put, List.setIfInBounds_toArray, List.set_cons_zero, List.set_cons_succ, i64_w, i32_w]
    rfl
  refine take_ (i := 1) (N := some 20) (v := ?_) (a' := ?_) #[true, true, true, true, false, true, false, false, false, false, false, false] rfl rfl (by kernel_rfl) (fun _ _ _ h => h) (Or.inl ⟨by rfl, ?_⟩) hHeld ?_ ?_
  rotate_left
  · rintro w' ⟨s0, s1⟩
    go_simp
    with_reducible rfl
  rotate_left
  · simp only [Act.put, List.setIfInBounds_toArray, List.set_cons_zero, List.set_cons_succ, i64_w, i32_w]
    rfl
  refine take_ (i := 4) (N := some 23) (v := ?_) (a' := ?_) #[true, true, true, true, true, true, false, false, false, false, false, false] rfl rfl (by kernel_rfl) (fun _ _ _ h => h) (Or.inl ⟨by rfl, ?_⟩) hHeld ?_ ?_
  rotate_left
  · rintro w' ⟨s0, s1⟩
    go_simp
    with_reducible rfl
  rotate_left
  · simp only [Act.put, List.setIfInBounds_toArray, List.set_cons_zero, List.set_cons_succ, i64_w, i32_w]
    rfl
  refine pure_ (i := 6) (N := some 25) (v := ?_) (a' := ?_) #[true, true, true, true, true, true, true, false, false, false, false, false] rfl rfl (by kernel_rfl) (fun _ _ _ h => h) (Or.inl ⟨by rfl, ?_⟩) ?_ ?_
  rotate_left
  · intro w'
    go_simp
    with_reducible rfl
  rotate_left
  · simp only [Act.put, List.setIfInBounds_toArray, List.set_cons_zero, List.set_cons_succ, i64_w, i32_w]
    rfl
  refine take_ (i := 7) (N := some 26) (v := ?_) (a' := ?_) #[true, true, true, true, true, true, true, true, false, false, false, false] rfl rfl (by kernel_rfl) (fun _ _ _ h => h) (Or.inl ⟨by rfl, ?_⟩) hHeld ?_ ?_
  rotate_left
  · rintro w' ⟨s0, s1⟩
    go_simp
    with_reducible rfl
  rotate_left
  · simp only [Act.put, List.setIfInBounds_toArray, List.set_cons_zero, List.set_cons_succ, i64_w, i32_w]
    rfl
  refine pure_ (i := 8) (N := some 27) (v := ?_) (a' := ?_) #[true, true, true, true, true, true, true, true, true, false, false, false] rfl rfl (by kernel_rfl) (fun _ _ _ h => h) (Or.inl ⟨by rfl, ?_⟩) ?_ ?_
  rotate_left
  · intro w'
    go_simp
    with_reducible rfl
  rotate_left
  · simp only [Act.put, List.setIfInBounds_toArray, List.set_cons_zero, List.set_cons_succ, i64_w, i32_w]
    rfl
  refine one_ (i := 9) (N := some 28) #[true, true, true, true, true, true, true, true, true, true, false, false] rfl rfl (by kernel_rfl) (by decide) (fun K hK => ?_)
  refine goes_ Try.func53 (by kernel_rfl) rfl #[.slice (some ad1) s.at_.length c1, .int .i64 (t : Int), .int .i64 (wrap64 ((k : Int) + 1))] (by rfl) rfl rfl (by (try simp only [List.map_toArray, List.map_cons, List.map_nil]); first | done | rfl) ?_
  refine (set_calls Q (some ad1) c1 s.at_ t (wrap64 ((k : Int) + 1)) _ HSY.out.r1 HSY.out.h1 (by have := HS8.out; have := HS4.out; omega) (HQB.out _ HSZ.out)).mono ?_
  rintro e u1 ⟨B1, d1, rfl, hd, hci, hb⟩
  refine ⟨_, rfl, ?_⟩
  refine hK.out _ _ ⟨pw_cell_below hb hHeld.1, pw_cell_below hb hHeld.2⟩ (fun hHeld => ?_)
  have HN := Aside0.mk hci
  have HND := Aside0.mk hd
  replace HG := Aside0.mk (blk_below HG.out hb)
  replace HZ := Aside0.mk (blk_below HZ.out hb)
  replace HI := Aside0.mk (blk_below HI.out hb)
  replace HSY := Aside0.mk (HSY.out.up (up_hid hb (fun _ _ h => h)))
  replace HB3 := Aside0.mk (HB3.out.trans (hb.mono HB3.out.size))
  replace HSZ := Aside0.mk (Nat.le_trans HSZ.out hb.size)
  clear hb hd hci
  clear hK K
  refine norm_ (a' := ?_) ?_ ?_
  rotate_left
  · show Act.put _ (some 28) _ = _
    simp only [Act.put, List.setIfInBounds_toArray, List.set_cons_zero, List.set_cons_succ, i64_w, i32_w]
    rfl
  refine pure_ (i := 10) (N := some 29) (v := ?_) (a' := ?_) #[true, true, true, true, true, true, true, true, true, true, true, false] rfl rfl (by kernel_rfl) (fun _ _ _ h => h) (Or.inl ⟨by rfl, ?_⟩) ?_ ?_
  rotate_left
  · intro w'
    go_simp
    with_reducible rfl
  rotate_left
  · simp only [Act.put, List.setIfInBounds_toArray, List.set_cons_zero, List.set_cons_succ, i64_w, i32_w]
    rfl
  refine last_ (i := 11) (N := none) #[true, true, true, true, true, true, true, true, true, true, true, true] rfl rfl (by kernel_rfl) (by decide) (fun K hK => ?_)
  clear hHeld
  have hc : u1.cell? ⟨w.heap.size, 1, none⟩ = some (.slice (some ad1) s.at_.length c1) := blk_cell HG.out 1
  have hf := blk_frozen HG.out 1
  refine skip_ (w1 := ?_) (by rfl) rfl ?_ ?_
  rotate_left
  · go_simp
    rfl
  refine hK.out _ _ ?_
  clear hK K
  clear hc hf
  replace HG := Aside0.mk (show (u1.setCell ⟨w.heap.size, 1, none⟩ (.slice B1 s.at_.length d1)).heap[w.heap.size]? = some (.cells #[.slice (some ad) s.th.length c0, .slice B1 s.at_.length d1, .slice a2 s.su.length c2, .slice a3 s.lo.length c3, .slice a4 s.ce.length c4, .slice a5 s.ch.length c5] 26 (0, 0)) from blk_put HG.out 1 _ rfl)
  replace HZ := Aside0.mk (blk_far HZ.out (p := ⟨w.heap.size, 1, none⟩) (Nat.succ_ne_self _) (.slice B1 s.at_.length d1))
  replace HI := Aside0.mk (blk_far HI.out (p := ⟨w.heap.size, 1, none⟩) (Nat.ne_of_gt HWW.out) (.slice B1 s.at_.length d1))
  replace HSY := Aside0.mk (HSY.out.up (up_hid_put (q := ⟨w.heap.size, 1, none⟩) HQG.out (.slice B1 s.at_.length d1)))
  replace HN := Aside0.mk (CI_up HN.out (up_hid_put (q := ⟨w.heap.size, 1, none⟩) HQG.out (.slice B1 s.at_.length d1)))
  replace HB3 := Aside0.mk (below_put (k := 1) HB3.out (Nat.le_refl _) (.slice B1 s.at_.length d1))
  replace HSZ : Aside0 (w2.heap.size + 1 ≤ (u1.setCell ⟨w.heap.size, 1, none⟩ (.slice B1 s.at_.length d1)).heap.size) := ⟨by rw [setCell_size]; exact HSZ.out⟩
  generalize u1.setCell ⟨w.heap.size, 1, none⟩ (.slice B1 s.at_.length d1) = w4 at *
  refine done_ (by kernel_rfl) ?_
  rw [HKW.out] at HN
  have hst : stepS s t i = doI ({ s with at_ := s.at_.set t ((k : Int) + 1) } : Syst) t i := by
    unfold stepS
    rw [List.getD_eq_getElem?_getD, HAT.out]
    rfl
  have HSY1 : Aside0 (SysC (hid Q w4) ({ s with at_ := s.at_.set t ((k : Int) + 1) } : Syst) ⟨(some ad), c0, B1, d1, a2, c2, a3, c3, a4, c4, a5, c5⟩) := ⟨{ HSY.out with r1 := HN.out, h1 := by rw [List.length_set]; exact HND.out }⟩
  have HST := Aside0.mk hst
  have HLD : Aside0 (∀ q : Ad, sysA (doI ({ s with at_ := s.at_.set t ((k : Int) + 1) } : Syst) t i) q = sysA s q) := ⟨fun q => by rw [sysA_doI]; unfold sysA; dsimp only; rw [List.length_set]⟩
  clear hst HSY HN HND HKW HAT HINS HTH
  have HSY := HSY1
  clear HSY1
  obtain ⟨o, na, n⟩ := i
  dsimp only at *
  obtain ⟨ho0, ho4, hn0, hn3, -, -⟩ := okI_bounds HOI.out
  dsimp only at ho0 ho4 hn0 hn3
  obtain ⟨m, rfl⟩ : ∃ m : Nat, na = m := ⟨na.toNat, by omega⟩
  have hcases : o = 0 ∨ o = 1 ∨ o = 2 ∨ o = 3 ∨ o = 4 := by omega
  have hm3 : m < s.lo.length := by have := HS4.out; omega
  have hm4 : m < s.ce.length := by have := HS4.out; omega
  have hm5 : m < s.ch.length := by have := HS4.out; omega
  have hne1 : ¬ (w2.heap.size = w.heap.size) := Nat.ne_of_gt HWW.out
  have hne2 : ¬ (w.heap.size = w2.heap.size) := Nat.ne_of_lt HWW.out
  clear ho0 ho4 hn0 hn3 HOI
  obtain ⟨q0, q1, q2, q3, q4, q5⟩ := six_cells HG.out
  obtain ⟨x0, x1, x2, x3, x4, x5⟩ := six_frozen HG.out
  obtain ⟨z0, z1, z2, z3, z4, z5⟩ := six_cells HZ.out; obtain ⟨y0, y1, y2, y3, y4, y5⟩ := six_frozen HZ.out
  rcases hcases with ho | ho | ho | ho | ho
  · have dq0 : (o == 0) = true := beq_iff_eq.2 ho
    have dq1 : (o == 1) = false := beq_eq_false_iff_ne.2 (by omega)
    have dq2 : (o == 2) = false := beq_eq_false_iff_ne.2 (by omega)
    have dq3 : (o == 3) = false := beq_eq_false_iff_ne.2 (by omega)
    have dq4 : (o == 4) = false := beq_eq_false_iff_ne.2 (by omega)
    have HO := Aside0.mk ho
    clear ho
    · skip
      have i0 : w4.cell? ⟨w2.heap.size, 0, none⟩ = some (.int .i64 o) := blk_cell HI.out 0; have i1 : w4.cell? ⟨w2.heap.size, 1, none⟩ = some (.int .i64 m) := blk_cell HI.out 1; have i2 : w4.cell? ⟨w2.heap.size, 2, none⟩ = some (.int .i64 n) := blk_cell HI.out 2
      have HDO : Aside0 (doI ({ s with at_ := s.at_.set t ((k : Int) + 1) } : Syst) t ⟨o, (m : Int), n⟩ = { ({ s with at_ := s.at_.set t ((k : Int) + 1) } : Syst) with lo := s.lo.set m t }) := ⟨by rw [HO.out]; unfold doI; simp⟩
      go_wp2_with (first | (go_at_call 53; refine (set_calls Q a3 c3 s.lo m ((t : Int)) _ HSY.out.r3 HSY.out.h3 (by have := HS8.out; have := HS4.out; omega) (HQB.out _ HSZ.out)).mono ?_; rintro e u1 ⟨B3, d3, rfl, hd, hci, hb⟩; have HN := Aside0.mk hci; have HND := Aside0.mk hd; replace HG := Aside0.mk (blk_below HG.out hb); replace HZ := Aside0.mk (blk_below HZ.out hb); replace HI := Aside0.mk (blk_below HI.out hb); replace HSY := Aside0.mk (HSY.out.up (up_hid hb (fun _ _ h => h))); replace HB3 := Aside0.mk (HB3.out.trans (hb.mono HB3.out.size)); replace HSZ := Aside0.mk (Nat.le_trans HSZ.out hb.size); clear q0 q1 q2 q3 q4 q5 x0 x1 x2 x3 x4 x5 z0 z1 z2 z3 z4 z5 y0 y1 y2 y3 y4 y5 i0 i1 i2 hb hd hci; obtain ⟨q0, q1, q2, q3, q4, q5⟩ := six_cells HG.out; obtain ⟨x0, x1, x2, x3, x4, x5⟩ := six_frozen HG.out; obtain ⟨z0, z1, z2, z3, z4, z5⟩ := six_cells HZ.out; obtain ⟨y0, y1, y2, y3, y4, y5⟩ := six_frozen HZ.out; have i0 : u1.cell? ⟨w2.heap.size, 0, none⟩ = some (.int .i64 o) := blk_cell HI.out 0; have i1 : u1.cell? ⟨w2.heap.size, 1, none⟩ = some (.int .i64 m) := blk_cell HI.out 1; have i2 : u1.cell? ⟨w2.heap.size, 2, none⟩ = some (.int .i64 n) := blk_cell HI.out 2) | (refine hold_store rfl ?_))
      refine ⟨store_list (w1 := u1.setCell ⟨w.heap.size, 3, none⟩ (.slice B3 s.lo.length d3)) rfl rfl (by go_simp) ?_⟩
      clear q0 q1 q2 q3 q4 q5 x0 x1 x2 x3 x4 x5 z0 z1 z2 z3 z4 z5 y0 y1 y2 y3 y4 y5 i0 i1 i2
      replace HG := Aside0.mk (show (u1.setCell ⟨w.heap.size, 3, none⟩ (.slice B3 s.lo.length d3)).heap[w.heap.size]? = some (.cells #[.slice (some ad) s.th.length c0, .slice B1 s.at_.length d1, .slice a2 s.su.length c2, .slice B3 s.lo.length d3, .slice a4 s.ce.length c4, .slice a5 s.ch.length c5] 26 (0, 0)) from blk_put HG.out 3 _ rfl)
      replace HZ := Aside0.mk (blk_far HZ.out (p := ⟨w.heap.size, 3, none⟩) (Nat.succ_ne_self _) (.slice B3 s.lo.length d3))
      replace HI := Aside0.mk (blk_far HI.out (p := ⟨w.heap.size, 3, none⟩) (Nat.ne_of_gt HWW.out) (.slice B3 s.lo.length d3))
      replace HSY := Aside0.mk (HSY.out.up (up_hid_put (q := ⟨w.heap.size, 3, none⟩) HQG.out (.slice B3 s.lo.length d3)))
      replace HN := Aside0.mk (CI_up HN.out (up_hid_put (q := ⟨w.heap.size, 3, none⟩) HQG.out (.slice B3 s.lo.length d3)))
      replace HB3 := Aside0.mk (below_put (k := 3) HB3.out (Nat.le_refl _) (.slice B3 s.lo.length d3))
      generalize u1.setCell ⟨w.heap.size, 3, none⟩ (.slice B3 s.lo.length d3) = w5 at *
      obtain ⟨q0, q1, q2, q3, q4, q5⟩ := six_cells HG.out
      obtain ⟨x0, x1, x2, x3, x4, x5⟩ := six_frozen HG.out
      obtain ⟨z0, z1, z2, z3, z4, z5⟩ := six_cells HZ.out; obtain ⟨y0, y1, y2, y3, y4, y5⟩ := six_frozen HZ.out
      have i0 : w5.cell? ⟨w2.heap.size, 0, none⟩ = some (.int .i64 o) := blk_cell HI.out 0; have i1 : w5.cell? ⟨w2.heap.size, 1, none⟩ = some (.int .i64 m) := blk_cell HI.out 1; have i2 : w5.cell? ⟨w2.heap.size, 2, none⟩ = some (.int .i64 n) := blk_cell HI.out 2
      go_wp2
      have HF : Aside0 (SysC (hid Q w5) (doI ({ s with at_ := s.at_.set t ((k : Int) + 1) } : Syst) t ⟨o, (m : Int), n⟩) ⟨(some ad), c0, B1, d1, a2, c2, B3, d3, a4, c4, a5, c5⟩) := ⟨by rw [HDO.out]; exact { HSY.out with r3 := HN.out, h3 := by rw [List.length_set]; exact HND.out }⟩
      refine bodyPost_ret (results_cell_row rfl _ _ (w.heap.size + 1) 26 _ (0, 0) _ rfl (six_put _ _ _ _ _ _ HZ.out) Try.underlying26 rfl (by kernel_rfl)) rfl ?_
      rw [HST.out]
      have hend := fun v0 v1 v2 v3 v4 v5 => ref_end (v0 := v0) (v1 := v1) (v2 := v2) (v3 := v3) (v4 := v4) (v5 := v5) HF.out HQ1.out HQP.out HB3.out
      exact ⟨⟨(some ad), c0, B1, d1, a2, c2, B3, d3, a4, c4, a5, c5⟩, by rw [HLD.out]; rfl, hend _ _ _ _ _ _⟩
  · have dq0 : (o == 0) = false := beq_eq_false_iff_ne.2 (by omega)
    have dq1 : (o == 1) = true := beq_iff_eq.2 ho
    have dq2 : (o == 2) = false := beq_eq_false_iff_ne.2 (by omega)
    have dq3 : (o == 3) = false := beq_eq_false_iff_ne.2 (by omega)
    have dq4 : (o == 4) = false := beq_eq_false_iff_ne.2 (by omega)
    have HO := Aside0.mk ho
    clear ho
    obtain ⟨ad3, e3, t4⟩ := Kd.at_int (HSY.out.up (hid_up _ _)).r3 (m : Int) (by omega) (by dsimp only; omega)
    subst e3
    obtain ⟨x, hx⟩ : ∃ x, s.lo[m]? = some x := ⟨_, List.getElem?_eq_getElem hm3⟩
    dsimp only at t4
    rw [rdI hx, Int.toNat_natCast] at t4
    by_cases hxt : x = (t : Int)
    · skip
      have i0 : w4.cell? ⟨w2.heap.size, 0, none⟩ = some (.int .i64 o) := blk_cell HI.out 0; have i1 : w4.cell? ⟨w2.heap.size, 1, none⟩ = some (.int .i64 m) := blk_cell HI.out 1; have i2 : w4.cell? ⟨w2.heap.size, 2, none⟩ = some (.int .i64 n) := blk_cell HI.out 2
      have HDO : Aside0 (doI ({ s with at_ := s.at_.set t ((k : Int) + 1) } : Syst) t ⟨o, (m : Int), n⟩ = { ({ s with at_ := s.at_.set t ((k : Int) + 1) } : Syst) with lo := s.lo.set m (-1) }) := ⟨by rw [HO.out]; unfold doI; simp [hx, hxt]⟩
      have dxt : ((x : Int) == (t : Int)) = true := beq_iff_eq.2 hxt
      clear hx hxt
      go_wp2_with (first | (go_at_call 53; refine (set_calls Q (some ad3) c3 s.lo m (-1) _ HSY.out.r3 HSY.out.h3 (by have := HS8.out; have := HS4.out; omega) (HQB.out _ HSZ.out)).mono ?_; rintro e u1 ⟨B3, d3, rfl, hd, hci, hb⟩; have HN := Aside0.mk hci; have HND := Aside0.mk hd; replace HG := Aside0.mk (blk_below HG.out hb); replace HZ := Aside0.mk (blk_below HZ.out hb); replace HI := Aside0.mk (blk_below HI.out hb); replace HSY := Aside0.mk (HSY.out.up (up_hid hb (fun _ _ h => h))); replace HB3 := Aside0.mk (HB3.out.trans (hb.mono HB3.out.size)); replace HSZ := Aside0.mk (Nat.le_trans HSZ.out hb.size); clear q0 q1 q2 q3 q4 q5 x0 x1 x2 x3 x4 x5 z0 z1 z2 z3 z4 z5 y0 y1 y2 y3 y4 y5 i0 i1 i2 hb hd hci; obtain ⟨q0, q1, q2, q3, q4, q5⟩ := six_cells HG.out; obtain ⟨x0, x1, x2, x3, x4, x5⟩ := six_frozen HG.out; obtain ⟨z0, z1, z2, z3, z4, z5⟩ := six_cells HZ.out; obtain ⟨y0, y1, y2, y3, y4, y5⟩ := six_frozen HZ.out; have i0 : u1.cell? ⟨w2.heap.size, 0, none⟩ = some (.int .i64 o) := blk_cell HI.out 0; have i1 : u1.cell? ⟨w2.heap.size, 1, none⟩ = some (.int .i64 m) := blk_cell HI.out 1; have i2 : u1.cell? ⟨w2.heap.size, 2, none⟩ = some (.int .i64 n) := blk_cell HI.out 2) | (refine hold_store rfl ?_))
      refine ⟨store_list (w1 := u1.setCell ⟨w.heap.size, 3, none⟩ (.slice B3 s.lo.length d3)) rfl rfl (by go_simp) ?_⟩
      clear q0 q1 q2 q3 q4 q5 x0 x1 x2 x3 x4 x5 z0 z1 z2 z3 z4 z5 y0 y1 y2 y3 y4 y5 i0 i1 i2
      replace HG := Aside0.mk (show (u1.setCell ⟨w.heap.size, 3, none⟩ (.slice B3 s.lo.length d3)).heap[w.heap.size]? = some (.cells #[.slice (some ad) s.th.length c0, .slice B1 s.at_.length d1, .slice a2 s.su.length c2, .slice B3 s.lo.length d3, .slice a4 s.ce.length c4, .slice a5 s.ch.length c5] 26 (0, 0)) from blk_put HG.out 3 _ rfl)
      replace HZ := Aside0.mk (blk_far HZ.out (p := ⟨w.heap.size, 3, none⟩) (Nat.succ_ne_self _) (.slice B3 s.lo.length d3))
      replace HI := Aside0.mk (blk_far HI.out (p := ⟨w.heap.size, 3, none⟩) (Nat.ne_of_gt HWW.out) (.slice B3 s.lo.length d3))
      replace HSY := Aside0.mk (HSY.out.up (up_hid_put (q := ⟨w.heap.size, 3, none⟩) HQG.out (.slice B3 s.lo.length d3)))
      replace HN := Aside0.mk (CI_up HN.out (up_hid_put (q := ⟨w.heap.size, 3, none⟩) HQG.out (.slice B3 s.lo.length d3)))
      replace HB3 := Aside0.mk (below_put (k := 3) HB3.out (Nat.le_refl _) (.slice B3 s.lo.length d3))
      generalize u1.setCell ⟨w.heap.size, 3, none⟩ (.slice B3 s.lo.length d3) = w5 at *
      obtain ⟨q0, q1, q2, q3, q4, q5⟩ := six_cells HG.out
      obtain ⟨x0, x1, x2, x3, x4, x5⟩ := six_frozen HG.out
      obtain ⟨z0, z1, z2, z3, z4, z5⟩ := six_cells HZ.out; obtain ⟨y0, y1, y2, y3, y4, y5⟩ := six_frozen HZ.out
      have i0 : w5.cell? ⟨w2.heap.size, 0, none⟩ = some (.int .i64 o) := blk_cell HI.out 0; have i1 : w5.cell? ⟨w2.heap.size, 1, none⟩ = some (.int .i64 m) := blk_cell HI.out 1; have i2 : w5.cell? ⟨w2.heap.size, 2, none⟩ = some (.int .i64 n) := blk_cell HI.out 2
      go_wp2
      have HF : Aside0 (SysC (hid Q w5) (doI ({ s with at_ := s.at_.set t ((k : Int) + 1) } : Syst) t ⟨o, (m : Int), n⟩) ⟨(some ad), c0, B1, d1, a2, c2, B3, d3, a4, c4, a5, c5⟩) := ⟨by rw [HDO.out]; exact { HSY.out with r3 := HN.out, h3 := by rw [List.length_set]; exact HND.out }⟩
      refine bodyPost_ret (results_cell_row rfl _ _ (w.heap.size + 1) 26 _ (0, 0) _ rfl (six_put _ _ _ _ _ _ HZ.out) Try.underlying26 rfl (by kernel_rfl)) rfl ?_
      rw [HST.out]
      have hend := fun v0 v1 v2 v3 v4 v5 => ref_end (v0 := v0) (v1 := v1) (v2 := v2) (v3 := v3) (v4 := v4) (v5 := v5) HF.out HQ1.out HQP.out HB3.out
      exact ⟨⟨(some ad), c0, B1, d1, a2, c2, B3, d3, a4, c4, a5, c5⟩, by rw [HLD.out]; rfl, hend _ _ _ _ _ _⟩
    · skip
      have i0 : w4.cell? ⟨w2.heap.size, 0, none⟩ = some (.int .i64 o) := blk_cell HI.out 0; have i1 : w4.cell? ⟨w2.heap.size, 1, none⟩ = some (.int .i64 m) := blk_cell HI.out 1; have i2 : w4.cell? ⟨w2.heap.size, 2, none⟩ = some (.int .i64 n) := blk_cell HI.out 2
      have HDO : Aside0 (doI ({ s with at_ := s.at_.set t ((k : Int) + 1) } : Syst) t ⟨o, (m : Int), n⟩ = ({ s with at_ := s.at_.set t ((k : Int) + 1) } : Syst)) := ⟨by rw [HO.out]; unfold doI; simp [hx, hxt]⟩
      have dxt : ((x : Int) == (t : Int)) = false := beq_eq_false_iff_ne.2 hxt
      clear hx hxt
      go_wp2
      have HF : Aside0 (SysC (hid Q w4) (doI ({ s with at_ := s.at_.set t ((k : Int) + 1) } : Syst) t ⟨o, (m : Int), n⟩) ⟨(some ad), c0, B1, d1, a2, c2, (some ad3), c3, a4, c4, a5, c5⟩) := ⟨by rw [HDO.out]; exact HSY.out⟩
      refine bodyPost_ret (results_cell_row rfl _ _ (w.heap.size + 1) 26 _ (0, 0) _ rfl (six_put _ _ _ _ _ _ HZ.out) Try.underlying26 rfl (by kernel_rfl)) rfl ?_
      rw [HST.out]
      have hend := fun v0 v1 v2 v3 v4 v5 => ref_end (v0 := v0) (v1 := v1) (v2 := v2) (v3 := v3) (v4 := v4) (v5 := v5) HF.out HQ1.out HQP.out HB3.out
      exact ⟨⟨(some ad), c0, B1, d1, a2, c2, (some ad3), c3, a4, c4, a5, c5⟩, by rw [HLD.out]; rfl, hend _ _ _ _ _ _⟩
  · have dq0 : (o == 0) = false := beq_eq_false_iff_ne.2 (by omega)
    have dq1 : (o == 1) = false := beq_eq_false_iff_ne.2 (by omega)
    have dq2 : (o == 2) = true := beq_iff_eq.2 ho
    have dq3 : (o == 3) = false := beq_eq_false_iff_ne.2 (by omega)
    have dq4 : (o == 4) = false := beq_eq_false_iff_ne.2 (by omega)
    have HO := Aside0.mk ho
    clear ho
    obtain ⟨ad4, e4, t4⟩ := Kd.at_int (HSY.out.up (hid_up _ _)).r4 (m : Int) (by omega) (by dsimp only; omega)
    subst e4
    obtain ⟨x, hx⟩ : ∃ x, s.ce[m]? = some x := ⟨_, List.getElem?_eq_getElem hm4⟩
    dsimp only at t4
    rw [rdI hx, Int.toNat_natCast] at t4
    · skip
      have i0 : w4.cell? ⟨w2.heap.size, 0, none⟩ = some (.int .i64 o) := blk_cell HI.out 0; have i1 : w4.cell? ⟨w2.heap.size, 1, none⟩ = some (.int .i64 m) := blk_cell HI.out 1; have i2 : w4.cell? ⟨w2.heap.size, 2, none⟩ = some (.int .i64 n) := blk_cell HI.out 2
      have HDO : Aside0 (doI ({ s with at_ := s.at_.set t ((k : Int) + 1) } : Syst) t ⟨o, (m : Int), n⟩ = { ({ s with at_ := s.at_.set t ((k : Int) + 1) } : Syst) with ce := s.ce.set m (wrap64 (x + n)) }) := ⟨by rw [HO.out]; unfold doI; simp [hx]⟩
      clear hx
      go_wp2
      refine start_ (n := 16) (S := fun w' => w'.cell? ⟨w.heap.size, 4, none⟩ = some (.slice (some ad4) s.ce.length c4) ∧ w'.cell? ⟨w2.heap.size, 1, none⟩ = some (.int .i64 m) ∧ w'.cell? ⟨w2.heap.size, 2, none⟩ = some (.int .i64 n) ∧ w'.cell? (ad4.add m) = some (.int .i64 x)) (ds := [15]) #[false, false, false, false, false, false, false, false, false, false, false, false, false, false, false, false] (by kernel_rfl) rfl rfl ⟨q4, i1, i2, t4⟩ (fun hHeld => ?_)
      replace HG := Aside0.mk (blk_drew HG.out)
      replace HZ := Aside0.mk (blk_drew HZ.out)
      replace HI := Aside0.mk (blk_drew HI.out)
      replace HSY := Aside0.mk (HSY.out.up (up_hid (below_drew (Below.refl _ _)) (fun _ _ h => h)))
      replace HB3 := Aside0.mk (below_drew HB3.out)
      clear q0 q1 q2 q3 q4 q5 i0 i1 i2 t4
      replace HSZ : Aside0 (w2.heap.size + 1 ≤ w4.drew.heap.size) := ⟨HSZ.out⟩
      generalize w4.drew = v4 at *
      refine pure_ (i := 0) (N := some 62) (v := ?_) (a' := ?_) #[true, false, false, false, false, false, false, false, false, false, false, false, false, false, false, false] rfl rfl (by kernel_rfl) (fun _ _ _ h => h) (Or.inl ⟨by rfl, ?_⟩) ?_ ?_
      rotate_left
      · intro w'
        go_simp
        with_reducible rfl
      rotate_left
      · simp only [Act.put, List.setIfInBounds_toArray, List.set_cons_zero, List.set_cons_succ, i64_w, i32_w]
        rfl
      refine pure_ (i := 2) (N := some 64) (v := ?_) (a' := ?_) #[true, false, true, false, false, false, false, false, false, false, false, false, false, false, false, false] rfl rfl (by kernel_rfl) (fun _ _ _ h => h) (Or.inl ⟨by rfl, ?_⟩) ?_ ?_
      rotate_left
      · intro w'
        go_simp
        with_reducible rfl
      rotate_left
      · simp only [Act.put, List.setIfInBounds_toArray, List.set_cons_zero, List.set_cons_succ, i64_w, i32_w]
        rfl
      refine pure_ (i := 4) (N := some 66) (v := ?_) (a' := ?_) #[true, false, true, false, true, false, false, false, false, false, false, false, false, false, false, false] rfl rfl (by kernel_rfl) (fun _ _ _ h => h) (Or.inl ⟨by rfl, ?_⟩) ?_ ?_
      rotate_left
      · intro w'
        go_simp
        with_reducible rfl
      rotate_left
      · simp only [Act.put, List.setIfInBounds_toArray, List.set_cons_zero, List.set_cons_succ, i64_w, i32_w]
        rfl
      refine pure_ (i := 6) (N := some 68) (v := ?_) (a' := ?_) #[true, false, true, false, true, false, true, false, false, false, false, false, false, false, false, false] rfl rfl (by kernel_rfl) (fun _ _ _ h => h) (Or.inl ⟨by rfl, ?_⟩) ?_ ?_
      rotate_left
      · intro w'
        go_simp
        with_reducible rfl
      rotate_left
      · simp only [Act.put, List.setIfInBounds_toArray, List.set_cons_zero, List.set_cons_succ, i64_w, i32_w]
        rfl
      refine pure_ (i := 10) (N := some 72) (v := ?_) (a' := ?_) #[true, false, true, false, true, false, true, false, false, false, true, false, false, false, false, false] rfl rfl (by kernel_rfl) (fun _ _ _ h => h) (Or.inl ⟨by rfl, ?_⟩) ?_ ?_
      rotate_left
      · intro w'
        go_simp
        with_reducible rfl
      rotate_left
      · simp only [Act.put, List.setIfInBounds_toArray, List.set_cons_zero, List.set_cons_succ, i64_w, i32_w]
        rfl
      refine take_ (i := 1) (N := some 63) (v := ?_) (a' := ?_) #[true, true, true, false, true, false, true, false, false, false, true, false, false, false, false, false] rfl rfl (by kernel_rfl) (fun _ _ _ h => h) (Or.inl ⟨by rfl, ?_⟩) hHeld ?_ ?_
      rotate_left
      · rintro w' ⟨s0, s1, s2, s3⟩
        go_simp
        with_reducible rfl
      rotate_left
      · simp only [Act.put, List.setIfInBounds_toArray, List.set_cons_zero, List.set_cons_succ, i64_w, i32_w]
        rfl
      refine take_ (i := 3) (N := some 65) (v := ?_) (a' := ?_) #[true, true, true, true, true, false, true, false, false, false, true, false, false, false, false, false] rfl rfl (by kernel_rfl) (fun _ _ _ h => h) (Or.inl ⟨by rfl, ?_⟩) hHeld ?_ ?_
      rotate_left
      · rintro w' ⟨s0, s1, s2, s3⟩
        go_simp
        with_reducible rfl
      rotate_left
      · simp only [Act.put, List.setIfInBounds_toArray, List.set_cons_zero, List.set_cons_succ, i64_w, i32_w]
        rfl
      refine take_ (i := 5) (N := some 67) (v := ?_) (a' := ?_) #[true, true, true, true, true, true, true, false, false, false, true, false, false, false, false, false] rfl rfl (by kernel_rfl) (fun _ _ _ h => h) (Or.inl ⟨by rfl, ?_⟩) hHeld ?_ ?_
      rotate_left
      · rintro w' ⟨s0, s1, s2, s3⟩
        go_simp
        with_reducible rfl
      rotate_left
      · simp only [Act.put, List.setIfInBounds_toArray, List.set_cons_zero, List.set_cons_succ, i64_w, i32_w]
        rfl
      refine take_ (i := 7) (N := some 69) (v := ?_) (a' := ?_) #[true, true, true, true, true, true, true, true, false, false, true, false, false, false, false, false] rfl rfl (by kernel_rfl) (fun _ _ _ h => h) (Or.inl ⟨by rfl, ?_⟩) hHeld ?_ ?_
      rotate_left
      · rintro w' ⟨s0, s1, s2, s3⟩
        go_simp
        with_reducible rfl
      rotate_left
      · simp only [Act.put, List.setIfInBounds_toArray, List.set_cons_zero, List.set_cons_succ, i64_w, i32_w]
        rfl
      refine take_ (i := 11) (N := some 73) (v := ?_) (a' := ?_) #[true, true, true, true, true, true, true, true, false, false, true, true, false, false, false, false] rfl rfl (by kernel_rfl) (fun _ _ _ h => h) (Or.inl ⟨by rfl, ?_⟩) hHeld ?_ ?_
      rotate_left
      · rintro w' ⟨s0, s1, s2, s3⟩
        go_simp
        with_reducible rfl
      rotate_left
      · simp only [Act.put, List.setIfInBounds_toArray, List.set_cons_zero, List.set_cons_succ, i64_w, i32_w]
        rfl
      refine pure_ (i := 8) (N := some 70) (v := ?_) (a' := ?_) #[true, true, true, true, true, true, true, true, true, false, true, true, false, false, false, false] rfl rfl (by kernel_rfl) (fun _ _ _ h => h) (Or.inl ⟨by rfl, ?_⟩) ?_ ?_
      rotate_left
      · intro w'
        go_simp
        with_reducible rfl
      rotate_left
      · simp only [Act.put, List.setIfInBounds_toArray, List.set_cons_zero, List.set_cons_succ, i64_w, i32_w]
        rfl
      refine take_ (i := 9) (N := some 71) (v := ?_) (a' := ?_) #[true, true, true, true, true, true, true, true, true, true, true, true, false, false, false, false] rfl rfl (by kernel_rfl) (fun _ _ _ h => h) (Or.inl ⟨by rfl, ?_⟩) hHeld ?_ ?_
      rotate_left
      · rintro w' ⟨s0, s1, s2, s3⟩
        go_simp
        with_reducible rfl
      rotate_left
      · simp only [Act.put, List.setIfInBounds_toArray, List.set_cons_zero, List.set_cons_succ, i64_w, i32_w]
        rfl
      refine pure_ (i := 12) (N := some 74) (v := ?_) (a' := ?_) #[true, true, true, true, true, true, true, true, true, true, true, true, true, false, false, false] rfl rfl (by kernel_rfl) (fun _ _ _ h => h) (Or.inl ⟨by rfl, ?_⟩) ?_ ?_
      rotate_left
      · intro w'
        go_simp
        with_reducible rfl
      rotate_left
      · simp only [Act.put, List.setIfInBounds_toArray, List.set_cons_zero, List.set_cons_succ, i64_w, i32_w]
        rfl
      refine one_ (i := 13) (N := some 75) #[true, true, true, true, true, true, true, true, true, true, true, true, true, true, false, false] rfl rfl (by kernel_rfl) (by decide) (fun K hK => ?_)
      refine goes_ Try.func53 (by kernel_rfl) rfl #[.slice (some ad4) s.ce.length c4, .int .i64 (m : Int), .int .i64 (wrap64 (x + n))] (by rfl) rfl rfl (by (try simp only [List.map_toArray, List.map_cons, List.map_nil]); first | done | rfl) ?_
      refine (set_calls Q (some ad4) c4 s.ce m (wrap64 (x + n)) _ HSY.out.r4 HSY.out.h4 (by have := HS8.out; have := HS4.out; omega) (HQB.out _ HSZ.out)).mono ?_
      rintro e u2 ⟨B4, d4, rfl, hd, hci, hb⟩
      refine ⟨_, rfl, ?_⟩
      refine hK.out _ _ ⟨pw_cell_below hb hHeld.1, pw_cell_below hb hHeld.2.1, pw_cell_below hb hHeld.2.2.1, pw_cell_below hb hHeld.2.2.2⟩ (fun hHeld => ?_)
      have HN := Aside0.mk hci
      have HND := Aside0.mk hd
      replace HG := Aside0.mk (blk_below HG.out hb)
      replace HZ := Aside0.mk (blk_below HZ.out hb)
      replace HI := Aside0.mk (blk_below HI.out hb)
      replace HSY := Aside0.mk (HSY.out.up (up_hid hb (fun _ _ h => h)))
      replace HB3 := Aside0.mk (HB3.out.trans (hb.mono HB3.out.size))
      replace HSZ := Aside0.mk (Nat.le_trans HSZ.out hb.size)
      clear hb hd hci
      clear hK K
      refine norm_ (a' := ?_) ?_ ?_
      rotate_left
      · show Act.put _ (some 75) _ = _
        simp only [Act.put, List.setIfInBounds_toArray, List.set_cons_zero, List.set_cons_succ, i64_w, i32_w]
        rfl
      refine pure_ (i := 14) (N := some 76) (v := ?_) (a' := ?_) #[true, true, true, true, true, true, true, true, true, true, true, true, true, true, true, false] rfl rfl (by kernel_rfl) (fun _ _ _ h => h) (Or.inl ⟨by rfl, ?_⟩) ?_ ?_
      rotate_left
      · intro w'
        go_simp
        with_reducible rfl
      rotate_left
      · simp only [Act.put, List.setIfInBounds_toArray, List.set_cons_zero, List.set_cons_succ, i64_w, i32_w]
        rfl
      refine last_ (i := 15) (N := none) #[true, true, true, true, true, true, true, true, true, true, true, true, true, true, true, true] rfl rfl (by kernel_rfl) (by decide) (fun K hK => ?_)
      clear hHeld
      have hc : u2.cell? ⟨w.heap.size, 4, none⟩ = some (.slice (some ad4) s.ce.length c4) := blk_cell HG.out 4
      have hf := blk_frozen HG.out 4
      refine skip_ (w1 := ?_) (by rfl) rfl ?_ ?_
      rotate_left
      · go_simp
        rfl
      refine hK.out _ _ ?_
      clear hK K
      clear hc hf
      replace HG := Aside0.mk (show (u2.setCell ⟨w.heap.size, 4, none⟩ (.slice B4 s.ce.length d4)).heap[w.heap.size]? = some (.cells #[.slice (some ad) s.th.length c0, .slice B1 s.at_.length d1, .slice a2 s.su.length c2, .slice a3 s.lo.length c3, .slice B4 s.ce.length d4, .slice a5 s.ch.length c5] 26 (0, 0)) from blk_put HG.out 4 _ rfl)
      replace HZ := Aside0.mk (blk_far HZ.out (p := ⟨w.heap.size, 4, none⟩) (Nat.succ_ne_self _) (.slice B4 s.ce.length d4))
      replace HI := Aside0.mk (blk_far HI.out (p := ⟨w.heap.size, 4, none⟩) (Nat.ne_of_gt HWW.out) (.slice B4 s.ce.length d4))
      replace HSY := Aside0.mk (HSY.out.up (up_hid_put (q := ⟨w.heap.size, 4, none⟩) HQG.out (.slice B4 s.ce.length d4)))
      replace HN := Aside0.mk (CI_up HN.out (up_hid_put (q := ⟨w.heap.size, 4, none⟩) HQG.out (.slice B4 s.ce.length d4)))
      replace HB3 := Aside0.mk (below_put (k := 4) HB3.out (Nat.le_refl _) (.slice B4 s.ce.length d4))
      replace HSZ : Aside0 (w2.heap.size + 1 ≤ (u2.setCell ⟨w.heap.size, 4, none⟩ (.slice B4 s.ce.length d4)).heap.size) := ⟨by rw [setCell_size]; exact HSZ.out⟩
      generalize u2.setCell ⟨w.heap.size, 4, none⟩ (.slice B4 s.ce.length d4) = w5 at *
      refine done_ (by kernel_rfl) ?_
      have HF : Aside0 (SysC (hid Q w5) (doI ({ s with at_ := s.at_.set t ((k : Int) + 1) } : Syst) t ⟨o, (m : Int), n⟩) ⟨(some ad), c0, B1, d1, a2, c2, a3, c3, B4, d4, a5, c5⟩) := ⟨by rw [HDO.out]; exact { HSY.out with r4 := HN.out, h4 := by rw [List.length_set]; exact HND.out }⟩
      clear x0 x1 x2 x3 x4 x5 z0 z1 z2 z3 z4 z5 y0 y1 y2 y3 y4 y5
      obtain ⟨q0, q1, q2, q3, q4, q5⟩ := six_cells HG.out
      obtain ⟨x0, x1, x2, x3, x4, x5⟩ := six_frozen HG.out
      obtain ⟨z0, z1, z2, z3, z4, z5⟩ := six_cells HZ.out; obtain ⟨y0, y1, y2, y3, y4, y5⟩ := six_frozen HZ.out
      have i0 : w5.cell? ⟨w2.heap.size, 0, none⟩ = some (.int .i64 o) := blk_cell HI.out 0; have i1 : w5.cell? ⟨w2.heap.size, 1, none⟩ = some (.int .i64 m) := blk_cell HI.out 1; have i2 : w5.cell? ⟨w2.heap.size, 2, none⟩ = some (.int .i64 n) := blk_cell HI.out 2
      go_wp2
      refine bodyPost_ret (results_cell_row rfl _ _ (w.heap.size + 1) 26 _ (0, 0) _ rfl (six_put _ _ _ _ _ _ HZ.out) Try.underlying26 rfl (by kernel_rfl)) rfl ?_
      rw [HST.out]
      have hend := fun v0 v1 v2 v3 v4 v5 => ref_end (v0 := v0) (v1 := v1) (v2 := v2) (v3 := v3) (v4 := v4) (v5 := v5) HF.out HQ1.out HQP.out HB3.out
      exact ⟨⟨(some ad), c0, B1, d1, a2, c2, a3, c3, B4, d4, a5, c5⟩, by rw [HLD.out]; rfl, hend _ _ _ _ _ _⟩
  · have dq0 : (o == 0) = false := beq_eq_false_iff_ne.2 (by omega)
    have dq1 : (o == 1) = false := beq_eq_false_iff_ne.2 (by omega)
    have dq2 : (o == 2) = false := beq_eq_false_iff_ne.2 (by omega)
    have dq3 : (o == 3) = true := beq_iff_eq.2 ho
    have dq4 : (o == 4) = false := beq_eq_false_iff_ne.2 (by omega)
    have HO := Aside0.mk ho
    clear ho
    obtain ⟨ad5, A6, cy, e5, t5, hcy, hyc⟩ := at_L3 HSY.out.r5 (m : Int) (by omega) (by dsimp only; omega)
    subst e5
    obtain ⟨y, hy⟩ : ∃ y, s.ch[m]? = some y := ⟨_, List.getElem?_eq_getElem hm5⟩
    dsimp only at t5 hcy hyc
    rw [rdC21 hy] at t5 hcy hyc
    rw [Int.toNat_natCast] at t5
    replace t5 := (hid_up Q w4).cell t5
    have HYC := Aside0.mk (CI_up hyc (hid_up Q w4))
    have HY2 : Aside0 (y.length ≤ 2) := ⟨HS.out.chs y (List.mem_of_getElem? hy)⟩
    obtain ⟨Y2, hY2⟩ : ∃ Y2, y ++ [n] = Y2 := ⟨_, rfl⟩
    have HDO : Aside0 (doI ({ s with at_ := s.at_.set t ((k : Int) + 1) } : Syst) t ⟨o, (m : Int), n⟩ = { ({ s with at_ := s.at_.set t ((k : Int) + 1) } : Syst) with ch := s.ch.set m Y2 }) := ⟨by rw [HO.out, ← hY2]; exact doI_send _ t m n y hy⟩
    have HYY := Aside0.mk hY2
    clear hyc hy hY2
    · skip
      have i0 : w4.cell? ⟨w2.heap.size, 0, none⟩ = some (.int .i64 o) := blk_cell HI.out 0; have i1 : w4.cell? ⟨w2.heap.size, 1, none⟩ = some (.int .i64 m) := blk_cell HI.out 1; have i2 : w4.cell? ⟨w2.heap.size, 2, none⟩ = some (.int .i64 n) := blk_cell HI.out 2
      have he : Below w4.heap.size w4 (w4.alloc (.cells #[] 3)) := (Below.refl _ _).alloc (Nat.le_refl _) _
      obtain ⟨qa0, qa1, qa2, qa3, qa4, qa5⟩ := six_cells (blk_alloc HG.out (.cells #[] 3))
      have ia1 := pw_cell_below he i1
      have t5a := pw_cell_below he t5
      go_wp2_with (at_builtin; refine hold ?_)
      refine ⟨?_⟩
      refine app_ints rfl _ _ rfl w4 w4.heap.size (.slice (some ⟨w4.heap.size, 0, none⟩) 0 0) [] y A6 y.length cy rfl rfl (empty_row w4 3 1) (Kd.C_below HYC.out he) he he.size (by have := HY2.out; simp; omega) ?_
      intro v1 u1 hr hb hgr hat
      rw [List.nil_append] at hr
      obtain ⟨E1, l1, rfl⟩ := row_slice hr
      have HR1 := Aside0.mk hr
      have HB1 := Aside0.mk hb
      have HG1 := Aside0.mk (blk_below HG.out hb)
      have HI1 := Aside0.mk (blk_below HI.out hb)
      replace t5 := pw_cell_below hb t5
      clear q0 q1 q2 q3 q4 q5 i0 i1 i2 qa0 qa1 qa2 qa3 qa4 qa5 ia1 t5a he hr hb hgr hat
      obtain ⟨q0, q1, q2, q3, q4, q5⟩ := six_cells HG1.out
      have i0 : u1.cell? ⟨w2.heap.size, 0, none⟩ = some (.int .i64 o) := blk_cell HI1.out 0; have i1 : u1.cell? ⟨w2.heap.size, 1, none⟩ = some (.int .i64 m) := blk_cell HI1.out 1; have i2 : u1.cell? ⟨w2.heap.size, 2, none⟩ = some (.int .i64 n) := blk_cell HI1.out 2
      have he : Below u1.heap.size u1 (u1.alloc (.cells #[.int .i64 n] 3)) := (Below.refl _ _).alloc (Nat.le_refl _) _
      go_wp2_with (at_builtin; refine hold ?_)
      refine ⟨?_⟩
      refine app_ints rfl _ _ rfl w4 w4.heap.size (.slice E1 y.length l1) y [n] (some ⟨u1.heap.size, 0, none⟩) 1 1 rfl rfl (below_row HR1.out he) (one_CI (blk_new u1 _)) (HB1.out.trans (he.mono HB1.out.size)) (Nat.le_trans HB1.out.size he.size) (by have := HY2.out; simp; omega) ?_
      intro v2 u2 hr hb hgr hat
      rw [HYY.out] at hr
      obtain ⟨E2, l2, rfl⟩ := row_slice hr
      obtain ⟨hx1, hx2⟩ := rowI_CI (w := hid Q u2) (b := w4.heap.size) (hid_row hr (HQB.out w4 HSZ.out))
      have HX := Aside0.mk hx1
      have HXC := Aside0.mk hx2
      replace HG := Aside0.mk (blk_below HG.out hb); replace HZ := Aside0.mk (blk_below HZ.out hb); replace HI := Aside0.mk (blk_below HI.out hb); replace HSY := Aside0.mk (HSY.out.up (up_hid hb (fun _ _ h => h))); replace HB3 := Aside0.mk (HB3.out.trans (hb.mono HB3.out.size)); replace HSZ := Aside0.mk (Nat.le_trans HSZ.out hb.size)
      clear q0 q1 q2 q3 q4 q5 i0 i1 i2 t5 he hr hb hgr hat hx1 hx2 HR1 HB1 HG1 HI1
      obtain ⟨q0, q1, q2, q3, q4, q5⟩ := six_cells HG.out
      obtain ⟨x0, x1, x2, x3, x4, x5⟩ := six_frozen HG.out
      obtain ⟨z0, z1, z2, z3, z4, z5⟩ := six_cells HZ.out; obtain ⟨y0, y1, y2, y3, y4, y5⟩ := six_frozen HZ.out
      have i0 : u2.cell? ⟨w2.heap.size, 0, none⟩ = some (.int .i64 o) := blk_cell HI.out 0; have i1 : u2.cell? ⟨w2.heap.size, 1, none⟩ = some (.int .i64 m) := blk_cell HI.out 1; have i2 : u2.cell? ⟨w2.heap.size, 2, none⟩ = some (.int .i64 n) := blk_cell HI.out 2
      go_wp2_with (first | (go_at_call 54; refine (chan_calls Q (some ad5) c5 s.ch m E2 l2 Y2 _ HSY.out.r5 HSY.out.h5 HX.out HXC.out (by have := HS4.out; omega) (HQB.out _ HSZ.out)).mono ?_; rintro e u3 ⟨B5, d5, rfl, hd, hci, hb⟩; have HN := Aside0.mk hci; have HND := Aside0.mk hd; replace HG := Aside0.mk (blk_below HG.out hb); replace HZ := Aside0.mk (blk_below HZ.out hb); replace HI := Aside0.mk (blk_below HI.out hb); replace HSY := Aside0.mk (HSY.out.up (up_hid hb (fun _ _ h => h))); replace HB3 := Aside0.mk (HB3.out.trans (hb.mono HB3.out.size)); replace HSZ := Aside0.mk (Nat.le_trans HSZ.out hb.size); clear q0 q1 q2 q3 q4 q5 x0 x1 x2 x3 x4 x5 z0 z1 z2 z3 z4 z5 y0 y1 y2 y3 y4 y5 i0 i1 i2 hb hd hci; obtain ⟨q0, q1, q2, q3, q4, q5⟩ := six_cells HG.out; obtain ⟨x0, x1, x2, x3, x4, x5⟩ := six_frozen HG.out; obtain ⟨z0, z1, z2, z3, z4, z5⟩ := six_cells HZ.out; obtain ⟨y0, y1, y2, y3, y4, y5⟩ := six_frozen HZ.out; have i0 : u3.cell? ⟨w2.heap.size, 0, none⟩ = some (.int .i64 o) := blk_cell HI.out 0; have i1 : u3.cell? ⟨w2.heap.size, 1, none⟩ = some (.int .i64 m) := blk_cell HI.out 1; have i2 : u3.cell? ⟨w2.heap.size, 2, none⟩ = some (.int .i64 n) := blk_cell HI.out 2) | (refine hold_store rfl ?_))
      refine ⟨store_list (w1 := u3.setCell ⟨w.heap.size, 5, none⟩ (.slice B5 s.ch.length d5)) rfl rfl (by go_simp) ?_⟩
      clear q0 q1 q2 q3 q4 q5 x0 x1 x2 x3 x4 x5 z0 z1 z2 z3 z4 z5 y0 y1 y2 y3 y4 y5 i0 i1 i2
      replace HG := Aside0.mk (show (u3.setCell ⟨w.heap.size, 5, none⟩ (.slice B5 s.ch.length d5)).heap[w.heap.size]? = some (.cells #[.slice (some ad) s.th.length c0, .slice B1 s.at_.length d1, .slice a2 s.su.length c2, .slice a3 s.lo.length c3, .slice a4 s.ce.length c4, .slice B5 s.ch.length d5] 26 (0, 0)) from blk_put HG.out 5 _ rfl)
      replace HZ := Aside0.mk (blk_far HZ.out (p := ⟨w.heap.size, 5, none⟩) (Nat.succ_ne_self _) (.slice B5 s.ch.length d5))
      replace HI := Aside0.mk (blk_far HI.out (p := ⟨w.heap.size, 5, none⟩) (Nat.ne_of_gt HWW.out) (.slice B5 s.ch.length d5))
      replace HSY := Aside0.mk (HSY.out.up (up_hid_put (q := ⟨w.heap.size, 5, none⟩) HQG.out (.slice B5 s.ch.length d5)))
      replace HN := Aside0.mk (CR_up HN.out (up_hid_put (q := ⟨w.heap.size, 5, none⟩) HQG.out (.slice B5 s.ch.length d5)))
      replace HB3 := Aside0.mk (below_put (k := 5) HB3.out (Nat.le_refl _) (.slice B5 s.ch.length d5))
      generalize u3.setCell ⟨w.heap.size, 5, none⟩ (.slice B5 s.ch.length d5) = w5 at *
      obtain ⟨q0, q1, q2, q3, q4, q5⟩ := six_cells HG.out
      obtain ⟨x0, x1, x2, x3, x4, x5⟩ := six_frozen HG.out
      obtain ⟨z0, z1, z2, z3, z4, z5⟩ := six_cells HZ.out; obtain ⟨y0, y1, y2, y3, y4, y5⟩ := six_frozen HZ.out
      have i0 : w5.cell? ⟨w2.heap.size, 0, none⟩ = some (.int .i64 o) := blk_cell HI.out 0; have i1 : w5.cell? ⟨w2.heap.size, 1, none⟩ = some (.int .i64 m) := blk_cell HI.out 1; have i2 : w5.cell? ⟨w2.heap.size, 2, none⟩ = some (.int .i64 n) := blk_cell HI.out 2
      go_wp2
      have HF : Aside0 (SysC (hid Q w5) (doI ({ s with at_ := s.at_.set t ((k : Int) + 1) } : Syst) t ⟨o, (m : Int), n⟩) ⟨(some ad), c0, B1, d1, a2, c2, a3, c3, a4, c4, B5, d5⟩) := ⟨by rw [HDO.out]; exact { HSY.out with r5 := HN.out, h5 := by rw [List.length_set]; exact HND.out }⟩
      refine bodyPost_ret (results_cell_row rfl _ _ (w.heap.size + 1) 26 _ (0, 0) _ rfl (six_put _ _ _ _ _ _ HZ.out) Try.underlying26 rfl (by kernel_rfl)) rfl ?_
      rw [HST.out]
      have hend := fun v0 v1 v2 v3 v4 v5 => ref_end (v0 := v0) (v1 := v1) (v2 := v2) (v3 := v3) (v4 := v4) (v5 := v5) HF.out HQ1.out HQP.out HB3.out
      exact ⟨⟨(some ad), c0, B1, d1, a2, c2, a3, c3, a4, c4, B5, d5⟩, by rw [HLD.out]; rfl, hend _ _ _ _ _ _⟩
  · have dq0 : (o == 0) = false := beq_eq_false_iff_ne.2 (by omega)
    have dq1 : (o == 1) = false := beq_eq_false_iff_ne.2 (by omega)
    have dq2 : (o == 2) = false := beq_eq_false_iff_ne.2 (by omega)
    have dq3 : (o == 3) = false := beq_eq_false_iff_ne.2 (by omega)
    have dq4 : (o == 4) = true := beq_iff_eq.2 ho
    have HO := Aside0.mk ho
    clear ho
    obtain ⟨ad5, A6, cy, e5, t5, hcy, hyc⟩ := at_L3 HSY.out.r5 (m : Int) (by omega) (by dsimp only; omega)
    subst e5
    obtain ⟨y, hy⟩ : ∃ y, s.ch[m]? = some y := ⟨_, List.getElem?_eq_getElem hm5⟩
    dsimp only at t5 hcy hyc
    rw [rdC21 hy] at t5 hcy hyc
    rw [Int.toNat_natCast] at t5
    have hyl : 0 < y.length := by
      have h1 := HCAN.out
      unfold canI at h1
      dsimp only at h1
      rw [if_neg (by rw [HO.out]; decide), if_neg (by rw [HO.out]; decide), if_pos HO.out, Int.toNat_natCast, List.getD_eq_getElem?_getD, hy] at h1
      exact of_decide_eq_true h1
    obtain ⟨y0, hy0⟩ : ∃ y0, y[0]? = some y0 := ⟨_, List.getElem?_eq_getElem hyl⟩
    have HY2 : Aside0 (y.length ≤ 2) := ⟨HS.out.chs y (List.mem_of_getElem? hy)⟩
    obtain ⟨ad6, e6, t6⟩ := Kd.at_int hyc (0 : Int) (by omega) (by omega)
    subst e6
    have e0 : rd y 0 = y0 := by unfold rd; rw [List.getD_eq_getElem?_getD]; show (y[0]?).getD 0 = y0; rw [hy0]; rfl
    rw [e0] at t6
    have e00 : ad6.add (Int.toNat 0) = ad6 := by simp [Addr.add]
    rw [e00] at t6
    obtain ⟨ad3, e3, t4⟩ := Kd.at_int HSY.out.r2 (t : Int) (by omega) (by have := HS.out.su; dsimp only; omega)
    have e3' : a2 = some ad3 := e3
    subst e3'
    obtain ⟨x, hx⟩ : ∃ x, s.su[t]? = some x := ⟨_, List.getElem?_eq_getElem (by have := HS.out.su; omega)⟩
    dsimp only at t4
    rw [rdI hx, Int.toNat_natCast] at t4
    obtain ⟨Y, hY⟩ : ∃ Y, y.drop 1 = Y := ⟨_, rfl⟩
    have hYl : Y.length = y.length - 1 := by rw [← hY, List.length_drop]
    have HDO : Aside0 (doI ({ s with at_ := s.at_.set t ((k : Int) + 1) } : Syst) t ⟨o, (m : Int), n⟩ = { ({ s with at_ := s.at_.set t ((k : Int) + 1) } : Syst) with su := s.su.set t (wrap64 (x + y0)), ch := s.ch.set m Y }) := ⟨by rw [HO.out, ← hY]; exact doI_recv _ t m n x y0 y hx hy hy0⟩
    have HYH := Aside0.mk hyc
    have T5H := Aside0.mk t5
    have HYL : Aside0 (1 ≤ y.length ∧ y.length ≤ cy) := ⟨hyl, hcy⟩
    have HYY := Aside0.mk hY
    have HYN := Aside0.mk hYl
    replace t5 := (hid_up Q w4).cell t5
    replace t6 := (hid_up Q w4).cell t6
    replace t4 := (hid_up Q w4).cell t4
    have hts : t < s.su.length := by have := HS.out.su; omega
    clear hyc hy hy0 e0 e00 hx hY hYl hcy
    · skip
      have i0 : w4.cell? ⟨w2.heap.size, 0, none⟩ = some (.int .i64 o) := blk_cell HI.out 0; have i1 : w4.cell? ⟨w2.heap.size, 1, none⟩ = some (.int .i64 m) := blk_cell HI.out 1; have i2 : w4.cell? ⟨w2.heap.size, 2, none⟩ = some (.int .i64 n) := blk_cell HI.out 2
      go_wp2
      refine start_ (n := 20) (S := fun w' => w'.cell? ⟨w.heap.size, 2, none⟩ = some (.slice (some ad3) s.su.length c2) ∧ w'.cell? ⟨w.heap.size, 5, none⟩ = some (.slice (some ad5) s.ch.length c5) ∧ w'.cell? ⟨w2.heap.size, 1, none⟩ = some (.int .i64 m) ∧ w'.cell? (ad3.add t) = some (.int .i64 x) ∧ w'.cell? (ad5.add m) = some (.slice (some ad6) y.length cy) ∧ w'.cell? ad6 = some (.int .i64 y0)) (ds := [19]) #[false, false, false, false, false, false, false, false, false, false, false, false, false, false, false, false, false, false, false, false] (by kernel_rfl) rfl rfl ⟨q2, q5, i1, t4, t5, t6⟩ (fun hHeld => ?_)
      replace HG := Aside0.mk (blk_drew HG.out)
      replace HZ := Aside0.mk (blk_drew HZ.out)
      replace HI := Aside0.mk (blk_drew HI.out)
      replace HSY := Aside0.mk (HSY.out.up (up_hid (below_drew (Below.refl _ _)) (fun _ _ h => h)))
      replace HB3 := Aside0.mk (below_drew HB3.out)
      replace HYH := Aside0.mk (CI_up HYH.out (up_hid (below_drew (Below.refl _ _)) (fun _ _ h => h)))
      replace T5H := Aside0.mk ((up_hid (below_drew (Below.refl _ _)) (fun _ _ h => h)).cell T5H.out)
      clear q0 q1 q2 q3 q4 q5 i0 i1 i2 t4 t5 t6
      replace HSZ : Aside0 (w2.heap.size + 1 ≤ w4.drew.heap.size) := ⟨HSZ.out⟩
      generalize w4.drew = v4 at *
      refine pure_ (i := 0) (N := some 104) (v := ?_) (a' := ?_) #[true, false, false, false, false, false, false, false, false, false, false, false, false, false, false, false, false, false, false, false] rfl rfl (by kernel_rfl) (fun _ _ _ h => h) (Or.inl ⟨by rfl, ?_⟩) ?_ ?_
      rotate_left
      · intro w'
        go_simp
        with_reducible rfl
      rotate_left
      · simp only [Act.put, List.setIfInBounds_toArray, List.set_cons_zero, List.set_cons_succ, i64_w, i32_w]
        rfl
      refine pure_ (i := 2) (N := some 106) (v := ?_) (a' := ?_) #[true, false, true, false, false, false, false, false, false, false, false, false, false, false, false, false, false, false, false, false] rfl rfl (by kernel_rfl) (fun _ _ _ h => h) (Or.inl ⟨by rfl, ?_⟩) ?_ ?_
      rotate_left
      · intro w'
        go_simp
        with_reducible rfl
      rotate_left
      · simp only [Act.put, List.setIfInBounds_toArray, List.set_cons_zero, List.set_cons_succ, i64_w, i32_w]
        rfl
      refine pure_ (i := 3) (N := some 107) (v := ?_) (a' := ?_) #[true, false, true, true, false, false, false, false, false, false, false, false, false, false, false, false, false, false, false, false] rfl rfl (by kernel_rfl) (fun _ _ _ h => h) (Or.inl ⟨by rfl, ?_⟩) ?_ ?_
      rotate_left
      · intro w'
        go_simp
        with_reducible rfl
      rotate_left
      · simp only [Act.put, List.setIfInBounds_toArray, List.set_cons_zero, List.set_cons_succ, i64_w, i32_w]
        rfl
      refine pure_ (i := 5) (N := some 109) (v := ?_) (a' := ?_) #[true, false, true, true, false, true, false, false, false, false, false, false, false, false, false, false, false, false, false, false] rfl rfl (by kernel_rfl) (fun _ _ _ h => h) (Or.inl ⟨by rfl, ?_⟩) ?_ ?_
      rotate_left
      · intro w'
        go_simp
        with_reducible rfl
      rotate_left
      · simp only [Act.put, List.setIfInBounds_toArray, List.set_cons_zero, List.set_cons_succ, i64_w, i32_w]
        rfl
      refine pure_ (i := 8) (N := some 112) (v := ?_) (a' := ?_) #[true, false, true, true, false, true, false, false, true, false, false, false, false, false, false, false, false, false, false, false] rfl rfl (by kernel_rfl) (fun _ _ _ h => h) (Or.inl ⟨by rfl, ?_⟩) ?_ ?_
      rotate_left
      · intro w'
        go_simp
        with_reducible rfl
      rotate_left
      · simp only [Act.put, List.setIfInBounds_toArray, List.set_cons_zero, List.set_cons_succ, i64_w, i32_w]
        rfl
      refine pure_ (i := 10) (N := some 114) (v := ?_) (a' := ?_) #[true, false, true, true, false, true, false, false, true, false, true, false, false, false, false, false, false, false, false, false] rfl rfl (by kernel_rfl) (fun _ _ _ h => h) (Or.inl ⟨by rfl, ?_⟩) ?_ ?_
      rotate_left
      · intro w'
        go_simp
        with_reducible rfl
      rotate_left
      · simp only [Act.put, List.setIfInBounds_toArray, List.set_cons_zero, List.set_cons_succ, i64_w, i32_w]
        rfl
      refine take_ (i := 1) (N := some 105) (v := ?_) (a' := ?_) #[true, true, true, true, false, true, false, false, true, false, true, false, false, false, false, false, false, false, false, false] rfl rfl (by kernel_rfl) (fun _ _ _ h => h) (Or.inl ⟨by rfl, ?_⟩) hHeld ?_ ?_
      rotate_left
      · rintro w' ⟨s0, s1, s2, s3, s4, s5⟩
        go_simp
        with_reducible rfl
      rotate_left
      · simp only [Act.put, List.setIfInBounds_toArray, List.set_cons_zero, List.set_cons_succ, i64_w, i32_w]
        rfl
      refine take_ (i := 4) (N := some 108) (v := ?_) (a' := ?_) #[true, true, true, true, true, true, false, false, true, false, true, false, false, false, false, false, false, false, false, false] rfl rfl (by kernel_rfl) (fun _ _ _ h => h) (Or.inl ⟨by rfl, ?_⟩) hHeld ?_ ?_
      rotate_left
      · rintro w' ⟨s0, s1, s2, s3, s4, s5⟩
        go_simp
        with_reducible rfl
      rotate_left
      · simp only [Act.put, List.setIfInBounds_toArray, List.set_cons_zero, List.set_cons_succ, i64_w, i32_w]
        rfl
      refine take_ (i := 9) (N := some 113) (v := ?_) (a' := ?_) #[true, true, true, true, true, true, false, false, true, true, true, false, false, false, false, false, false, false, false, false] rfl rfl (by kernel_rfl) (fun _ _ _ h => h) (Or.inl ⟨by rfl, ?_⟩) hHeld ?_ ?_
      rotate_left
      · rintro w' ⟨s0, s1, s2, s3, s4, s5⟩
        go_simp
        with_reducible rfl
      rotate_left
      · simp only [Act.put, List.setIfInBounds_toArray, List.set_cons_zero, List.set_cons_succ, i64_w, i32_w]
        rfl
      refine take_ (i := 11) (N := some 115) (v := ?_) (a' := ?_) #[true, true, true, true, true, true, false, false, true, true, true, true, false, false, false, false, false, false, false, false] rfl rfl (by kernel_rfl) (fun _ _ _ h => h) (Or.inl ⟨by rfl, ?_⟩) hHeld ?_ ?_
      rotate_left
      · rintro w' ⟨s0, s1, s2, s3, s4, s5⟩
        go_simp
        with_reducible rfl
      rotate_left
      · simp only [Act.put, List.setIfInBounds_toArray, List.set_cons_zero, List.set_cons_succ, i64_w, i32_w]
        rfl
      refine pure_ (i := 6) (N := some 110) (v := ?_) (a' := ?_) #[true, true, true, true, true, true, true, false, true, true, true, true, false, false, false, false, false, false, false, false] rfl rfl (by kernel_rfl) (fun _ _ _ h => h) (Or.inl ⟨by rfl, ?_⟩) ?_ ?_
      rotate_left
      · intro w'
        go_simp
        with_reducible rfl
      rotate_left
      · simp only [Act.put, List.setIfInBounds_toArray, List.set_cons_zero, List.set_cons_succ, i64_w, i32_w]
        rfl
      refine take_ (i := 7) (N := some 111) (v := ?_) (a' := ?_) #[true, true, true, true, true, true, true, true, true, true, true, true, false, false, false, false, false, false, false, false] rfl rfl (by kernel_rfl) (fun _ _ _ h => h) (Or.inl ⟨by rfl, ?_⟩) hHeld ?_ ?_
      rotate_left
      · rintro w' ⟨s0, s1, s2, s3, s4, s5⟩
        go_simp
        with_reducible rfl
      rotate_left
      · simp only [Act.put, List.setIfInBounds_toArray, List.set_cons_zero, List.set_cons_succ, i64_w, i32_w]
        rfl
      refine pure_ (i := 12) (N := some 116) (v := ?_) (a' := ?_) #[true, true, true, true, true, true, true, true, true, true, true, true, true, false, false, false, false, false, false, false] rfl rfl (by kernel_rfl) (fun _ _ _ h => h) (Or.inl ⟨by rfl, ?_⟩) ?_ ?_
      rotate_left
      · intro w'
        go_simp
        with_reducible rfl
      rotate_left
      · simp only [Act.put, List.setIfInBounds_toArray, List.set_cons_zero, List.set_cons_succ, i64_w, i32_w]
        rfl
      refine take_ (i := 13) (N := some 117) (v := ?_) (a' := ?_) #[true, true, true, true, true, true, true, true, true, true, true, true, true, true, false, false, false, false, false, false] rfl rfl (by kernel_rfl) (fun _ _ _ h => h) (Or.inl ⟨by rfl, ?_⟩) hHeld ?_ ?_
      rotate_left
      · rintro w' ⟨s0, s1, s2, s3, s4, s5⟩
        go_simp
        with_reducible rfl
      rotate_left
      · simp only [Act.put, List.setIfInBounds_toArray, List.set_cons_zero, List.set_cons_succ, i64_w, i32_w]
        rfl
      refine pure_ (i := 14) (N := some 118) (v := ?_) (a' := ?_) #[true, true, true, true, true, true, true, true, true, true, true, true, true, true, true, false, false, false, false, false] rfl rfl (by kernel_rfl) (fun _ _ _ h => h) (Or.inl ⟨by rfl, ?_⟩) ?_ ?_
      rotate_left
      · intro w'
        go_simp
        with_reducible rfl
      rotate_left
      · simp only [Act.put, List.setIfInBounds_toArray, List.set_cons_zero, List.set_cons_succ, i64_w, i32_w]
        rfl
      refine take_ (i := 15) (N := some 119) (v := ?_) (a' := ?_) #[true, true, true, true, true, true, true, true, true, true, true, true, true, true, true, true, false, false, false, false] rfl rfl (by kernel_rfl) (fun _ _ _ h => h) (Or.inl ⟨by rfl, ?_⟩) hHeld ?_ ?_
      rotate_left
      · rintro w' ⟨s0, s1, s2, s3, s4, s5⟩
        go_simp
        with_reducible rfl
      rotate_left
      · simp only [Act.put, List.setIfInBounds_toArray, List.set_cons_zero, List.set_cons_succ, i64_w, i32_w]
        rfl
      refine pure_ (i := 16) (N := some 120) (v := ?_) (a' := ?_) #[true, true, true, true, true, true, true, true, true, true, true, true, true, true, true, true, true, false, false, false] rfl rfl (by kernel_rfl) (fun _ _ _ h => h) (Or.inl ⟨by rfl, ?_⟩) ?_ ?_
      rotate_left
      · intro w'
        go_simp
        with_reducible rfl
      rotate_left
      · simp only [Act.put, List.setIfInBounds_toArray, List.set_cons_zero, List.set_cons_succ, i64_w, i32_w]
        rfl
      refine one_ (i := 17) (N := some 121) #[true, true, true, true, true, true, true, true, true, true, true, true, true, true, true, true, true, true, false, false] rfl rfl (by kernel_rfl) (by decide) (fun K hK => ?_)
      refine goes_ Try.func53 (by kernel_rfl) rfl #[.slice (some ad3) s.su.length c2, .int .i64 (t : Int), .int .i64 (wrap64 (x + y0))] (by rfl) rfl rfl (by (try simp only [List.map_toArray, List.map_cons, List.map_nil]); first | done | rfl) ?_
      refine (set_calls Q (some ad3) c2 s.su t (wrap64 (x + y0)) _ HSY.out.r2 HSY.out.h2 (by have := HS8.out; have := HS4.out; omega) (HQB.out _ HSZ.out)).mono ?_
      rintro e u2 ⟨B2, d2, rfl, hd, hci, hb⟩
      refine ⟨_, rfl, ?_⟩
      refine hK.out _ _ ⟨pw_cell_below hb hHeld.1, pw_cell_below hb hHeld.2.1, pw_cell_below hb hHeld.2.2.1, pw_cell_below hb hHeld.2.2.2.1, pw_cell_below hb hHeld.2.2.2.2.1, pw_cell_below hb hHeld.2.2.2.2.2⟩ (fun hHeld => ?_)
      have HN := Aside0.mk hci
      have HND := Aside0.mk hd
      replace HG := Aside0.mk (blk_below HG.out hb)
      replace HZ := Aside0.mk (blk_below HZ.out hb)
      replace HI := Aside0.mk (blk_below HI.out hb)
      replace HSY := Aside0.mk (HSY.out.up (up_hid hb (fun _ _ h => h)))
      replace HB3 := Aside0.mk (HB3.out.trans (hb.mono HB3.out.size))
      replace HSZ := Aside0.mk (Nat.le_trans HSZ.out hb.size)
      replace HYH := Aside0.mk (CI_up HYH.out (up_hid hb (fun _ _ h => h)))
      replace T5H := Aside0.mk ((up_hid hb (fun _ _ h => h)).cell T5H.out)
      clear hb hd hci
      clear hK K
      refine norm_ (a' := ?_) ?_ ?_
      rotate_left
      · show Act.put _ (some 121) _ = _
        simp only [Act.put, List.setIfInBounds_toArray, List.set_cons_zero, List.set_cons_succ, i64_w, i32_w]
        rfl
      refine pure_ (i := 18) (N := some 122) (v := ?_) (a' := ?_) #[true, true, true, true, true, true, true, true, true, true, true, true, true, true, true, true, true, true, true, false] rfl rfl (by kernel_rfl) (fun _ _ _ h => h) (Or.inl ⟨by rfl, ?_⟩) ?_ ?_
      rotate_left
      · intro w'
        go_simp
        with_reducible rfl
      rotate_left
      · simp only [Act.put, List.setIfInBounds_toArray, List.set_cons_zero, List.set_cons_succ, i64_w, i32_w]
        rfl
      refine last_ (i := 19) (N := none) #[true, true, true, true, true, true, true, true, true, true, true, true, true, true, true, true, true, true, true, true] rfl rfl (by kernel_rfl) (by decide) (fun K hK => ?_)
      clear hHeld
      have hc : u2.cell? ⟨w.heap.size, 2, none⟩ = some (.slice (some ad3) s.su.length c2) := blk_cell HG.out 2
      have hf := blk_frozen HG.out 2
      refine skip_ (w1 := ?_) (by rfl) rfl ?_ ?_
      rotate_left
      · go_simp
        rfl
      refine hK.out _ _ ?_
      clear hK K
      clear hc hf
      replace HG := Aside0.mk (show (u2.setCell ⟨w.heap.size, 2, none⟩ (.slice B2 s.su.length d2)).heap[w.heap.size]? = some (.cells #[.slice (some ad) s.th.length c0, .slice B1 s.at_.length d1, .slice B2 s.su.length d2, .slice a3 s.lo.length c3, .slice a4 s.ce.length c4, .slice (some ad5) s.ch.length c5] 26 (0, 0)) from blk_put HG.out 2 _ rfl)
      replace HZ := Aside0.mk (blk_far HZ.out (p := ⟨w.heap.size, 2, none⟩) (Nat.succ_ne_self _) (.slice B2 s.su.length d2))
      replace HI := Aside0.mk (blk_far HI.out (p := ⟨w.heap.size, 2, none⟩) (Nat.ne_of_gt HWW.out) (.slice B2 s.su.length d2))
      replace HSY := Aside0.mk (HSY.out.up (up_hid_put (q := ⟨w.heap.size, 2, none⟩) HQG.out (.slice B2 s.su.length d2)))
      replace HN := Aside0.mk (CI_up HN.out (up_hid_put (q := ⟨w.heap.size, 2, none⟩) HQG.out (.slice B2 s.su.length d2)))
      replace HYH := Aside0.mk (CI_up HYH.out (up_hid_put (q := ⟨w.heap.size, 2, none⟩) HQG.out (.slice B2 s.su.length d2)))
      replace T5H := Aside0.mk ((up_hid_put (q := ⟨w.heap.size, 2, none⟩) HQG.out (.slice B2 s.su.length d2)).cell T5H.out)
      replace HB3 := Aside0.mk (below_put (k := 2) HB3.out (Nat.le_refl _) (.slice B2 s.su.length d2))
      replace HSZ : Aside0 (w2.heap.size + 1 ≤ (u2.setCell ⟨w.heap.size, 2, none⟩ (.slice B2 s.su.length d2)).heap.size) := ⟨by rw [setCell_size]; exact HSZ.out⟩
      generalize u2.setCell ⟨w.heap.size, 2, none⟩ (.slice B2 s.su.length d2) = w5 at *
      refine done_ (by kernel_rfl) ?_
      have HSU := Aside0.mk HN.out
      have HSUD := Aside0.mk HND.out
      clear HN HND
      have HX : Aside0 (CI (hid Q w5) (if cy = 1 then some ad6 else (some ad6).map (·.add (1 * 1))) Y) := ⟨by
        have h1 := Kd.C_drop HYH.out (m := 1) HYL.out.1 HYL.out.2
        rw [HYY.out] at h1
        exact h1⟩
      have HXC : Aside0 (Y.length ≤ cy - 1) := ⟨by have := HYL.out; rw [HYN.out]; omega⟩
      have t5 : w5.cell? (ad5.add m) = some (.slice (some ad6) y.length cy) := (hid_up Q w5).cell T5H.out
      have qs : ∀ W : World, (Instr.slice 23 (.slice (some ad6) y.length cy) (some (.int .i64 1)) none none).run Try.prog W = .ok (.slice (if cy = 1 then some ad6 else (some ad6).map (·.add (1 * 1))) Y.length (cy - 1)) W := fun W => by
        obtain ⟨i, hi, hz1, hz0, -⟩ := info_parts info3
        have h3 := cut_from (P := Try.prog) 23 3 .i64 Try.underlying23 hi 1 hz0 (some ad6) y.length cy (1 : Int) (by omega) (by have := HYL.out; omega) W
        rw [HYN.out]
        exact h3
      generalize hAX : (if cy = 1 then some ad6 else (some ad6).map (·.add (1 * 1))) = AX at *
      clear hAX
      clear x0 x1 x2 x3 x4 x5 z0 z1 z2 z3 z4 z5 y1 y2 y3 y4 y5
      obtain ⟨q0, q1, q2, q3, q4, q5⟩ := six_cells HG.out
      obtain ⟨x0, x1, x2, x3, x4, x5⟩ := six_frozen HG.out
      have i0 : w5.cell? ⟨w2.heap.size, 0, none⟩ = some (.int .i64 o) := blk_cell HI.out 0; have i1 : w5.cell? ⟨w2.heap.size, 1, none⟩ = some (.int .i64 m) := blk_cell HI.out 1; have i2 : w5.cell? ⟨w2.heap.size, 2, none⟩ = some (.int .i64 n) := blk_cell HI.out 2
      go_wp2
      refine start_ (n := 14) (S := fun w' => w'.cell? ⟨w.heap.size, 5, none⟩ = some (.slice (some ad5) s.ch.length c5) ∧ w'.cell? ⟨w2.heap.size, 1, none⟩ = some (.int .i64 m) ∧ w'.cell? (ad5.add m) = some (.slice (some ad6) y.length cy)) (ds := [13]) #[false, false, false, false, false, false, false, false, false, false, false, false, false, false] (by kernel_rfl) rfl rfl ⟨q5, i1, t5⟩ (fun hHeld => ?_)
      replace HG := Aside0.mk (blk_drew HG.out)
      replace HZ := Aside0.mk (blk_drew HZ.out)
      replace HI := Aside0.mk (blk_drew HI.out)
      replace HSY := Aside0.mk (HSY.out.up (up_hid (below_drew (Below.refl _ _)) (fun _ _ h => h)))
      replace HB3 := Aside0.mk (below_drew HB3.out)
      replace HX := Aside0.mk (CI_up HX.out (up_hid (below_drew (Below.refl _ _)) (fun _ _ h => h)))
      replace HSU := Aside0.mk (CI_up HSU.out (up_hid (below_drew (Below.refl _ _)) (fun _ _ h => h)))
      clear q0 q1 q2 q3 q4 q5 i0 i1 i2 t5
      replace HSZ : Aside0 (w2.heap.size + 1 ≤ w5.drew.heap.size) := ⟨HSZ.out⟩
      generalize w5.drew = v5 at *
      refine pure_ (i := 0) (N := some 123) (v := ?_) (a' := ?_) #[true, false, false, false, false, false, false, false, false, false, false, false, false, false] rfl rfl (by kernel_rfl) (fun _ _ _ h => h) (Or.inl ⟨by rfl, ?_⟩) ?_ ?_
      rotate_left
      · intro w'
        go_simp
        with_reducible rfl
      rotate_left
      · simp only [Act.put, List.setIfInBounds_toArray, List.set_cons_zero, List.set_cons_succ, i64_w, i32_w]
        rfl
      refine pure_ (i := 2) (N := some 125) (v := ?_) (a' := ?_) #[true, false, true, false, false, false, false, false, false, false, false, false, false, false] rfl rfl (by kernel_rfl) (fun _ _ _ h => h) (Or.inl ⟨by rfl, ?_⟩) ?_ ?_
      rotate_left
      · intro w'
        go_simp
        with_reducible rfl
      rotate_left
      · simp only [Act.put, List.setIfInBounds_toArray, List.set_cons_zero, List.set_cons_succ, i64_w, i32_w]
        rfl
      refine pure_ (i := 4) (N := some 127) (v := ?_) (a' := ?_) #[true, false, true, false, true, false, false, false, false, false, false, false, false, false] rfl rfl (by kernel_rfl) (fun _ _ _ h => h) (Or.inl ⟨by rfl, ?_⟩) ?_ ?_
      rotate_left
      · intro w'
        go_simp
        with_reducible rfl
      rotate_left
      · simp only [Act.put, List.setIfInBounds_toArray, List.set_cons_zero, List.set_cons_succ, i64_w, i32_w]
        rfl
      refine pure_ (i := 6) (N := some 129) (v := ?_) (a' := ?_) #[true, false, true, false, true, false, true, false, false, false, false, false, false, false] rfl rfl (by kernel_rfl) (fun _ _ _ h => h) (Or.inl ⟨by rfl, ?_⟩) ?_ ?_
      rotate_left
      · intro w'
        go_simp
        with_reducible rfl
      rotate_left
      · simp only [Act.put, List.setIfInBounds_toArray, List.set_cons_zero, List.set_cons_succ, i64_w, i32_w]
        rfl
      refine take_ (i := 1) (N := some 124) (v := ?_) (a' := ?_) #[true, true, true, false, true, false, true, false, false, false, false, false, false, false] rfl rfl (by kernel_rfl) (fun _ _ _ h => h) (Or.inl ⟨by rfl, ?_⟩) hHeld ?_ ?_
      rotate_left
      · rintro w' ⟨s0, s1, s2⟩
        go_simp
        with_reducible rfl
      rotate_left
      · simp only [Act.put, List.setIfInBounds_toArray, List.set_cons_zero, List.set_cons_succ, i64_w, i32_w]
        rfl
      refine take_ (i := 3) (N := some 126) (v := ?_) (a' := ?_) #[true, true, true, true, true, false, true, false, false, false, false, false, false, false] rfl rfl (by kernel_rfl) (fun _ _ _ h => h) (Or.inl ⟨by rfl, ?_⟩) hHeld ?_ ?_
      rotate_left
      · rintro w' ⟨s0, s1, s2⟩
        go_simp
        with_reducible rfl
      rotate_left
      · simp only [Act.put, List.setIfInBounds_toArray, List.set_cons_zero, List.set_cons_succ, i64_w, i32_w]
        rfl
      refine take_ (i := 5) (N := some 128) (v := ?_) (a' := ?_) #[true, true, true, true, true, true, true, false, false, false, false, false, false, false] rfl rfl (by kernel_rfl) (fun _ _ _ h => h) (Or.inl ⟨by rfl, ?_⟩) hHeld ?_ ?_
      rotate_left
      · rintro w' ⟨s0, s1, s2⟩
        go_simp
        with_reducible rfl
      rotate_left
      · simp only [Act.put, List.setIfInBounds_toArray, List.set_cons_zero, List.set_cons_succ, i64_w, i32_w]
        rfl
      refine take_ (i := 7) (N := some 130) (v := ?_) (a' := ?_) #[true, true, true, true, true, true, true, true, false, false, false, false, false, false] rfl rfl (by kernel_rfl) (fun _ _ _ h => h) (Or.inl ⟨by rfl, ?_⟩) hHeld ?_ ?_
      rotate_left
      · rintro w' ⟨s0, s1, s2⟩
        go_simp
        with_reducible rfl
      rotate_left
      · simp only [Act.put, List.setIfInBounds_toArray, List.set_cons_zero, List.set_cons_succ, i64_w, i32_w]
        rfl
      refine pure_ (i := 8) (N := some 131) (v := ?_) (a' := ?_) #[true, true, true, true, true, true, true, true, true, false, false, false, false, false] rfl rfl (by kernel_rfl) (fun _ _ _ h => h) (Or.inl ⟨by rfl, ?_⟩) ?_ ?_
      rotate_left
      · intro w'
        go_simp
        with_reducible rfl
      rotate_left
      · simp only [Act.put, List.setIfInBounds_toArray, List.set_cons_zero, List.set_cons_succ, i64_w, i32_w]
        rfl
      refine take_ (i := 9) (N := some 132) (v := ?_) (a' := ?_) #[true, true, true, true, true, true, true, true, true, true, false, false, false, false] rfl rfl (by kernel_rfl) (fun _ _ _ h => h) (Or.inl ⟨by rfl, ?_⟩) hHeld ?_ ?_
      rotate_left
      · rintro w' ⟨s0, s1, s2⟩
        go_simp
        with_reducible rfl
      rotate_left
      · simp only [Act.put, List.setIfInBounds_toArray, List.set_cons_zero, List.set_cons_succ, i64_w, i32_w]
        rfl
      refine pure_ (i := 10) (N := some 133) (v := ?_) (a' := ?_) #[true, true, true, true, true, true, true, true, true, true, true, false, false, false] rfl rfl (by kernel_rfl) (fun _ _ _ h => h) (Or.inl ⟨by rfl, ?_⟩) ?_ ?_
      rotate_left
      · intro w'
        go_simp
        with_reducible rfl
      rotate_left
      · simp only [Act.put, List.setIfInBounds_toArray, List.set_cons_zero, List.set_cons_succ, i64_w, i32_w]
        rfl
      refine one_ (i := 11) (N := some 134) #[true, true, true, true, true, true, true, true, true, true, true, true, false, false] rfl rfl (by kernel_rfl) (by decide) (fun K hK => ?_)
      refine goes_ Try.func54 (by kernel_rfl) rfl #[.slice (some ad5) s.ch.length c5, .int .i64 (m : Int), .slice AX Y.length (cy - 1)] (by rfl) rfl rfl (by (try simp only [List.map_toArray, List.map_cons, List.map_nil]); first | done | rfl) ?_
      refine (chan_calls Q (some ad5) c5 s.ch m AX (cy - 1) Y _ HSY.out.r5 HSY.out.h5 HX.out HXC.out (by have := HS4.out; omega) (HQB.out _ HSZ.out)).mono ?_
      rintro e u3 ⟨B5, d5, rfl, hd, hci, hb⟩
      refine ⟨_, rfl, ?_⟩
      refine hK.out _ _ ⟨pw_cell_below hb hHeld.1, pw_cell_below hb hHeld.2.1, pw_cell_below hb hHeld.2.2⟩ (fun hHeld => ?_)
      have HN := Aside0.mk hci
      have HND := Aside0.mk hd
      replace HG := Aside0.mk (blk_below HG.out hb)
      replace HZ := Aside0.mk (blk_below HZ.out hb)
      replace HI := Aside0.mk (blk_below HI.out hb)
      replace HSY := Aside0.mk (HSY.out.up (up_hid hb (fun _ _ h => h)))
      replace HB3 := Aside0.mk (HB3.out.trans (hb.mono HB3.out.size))
      replace HSZ := Aside0.mk (Nat.le_trans HSZ.out hb.size)
      replace HSU := Aside0.mk (CI_up HSU.out (up_hid hb (fun _ _ h => h)))
      clear hb hd hci
      clear hK K
      refine norm_ (a' := ?_) ?_ ?_
      rotate_left
      · show Act.put _ (some 134) _ = _
        simp only [Act.put, List.setIfInBounds_toArray, List.set_cons_zero, List.set_cons_succ, i64_w, i32_w]
        rfl
      refine pure_ (i := 12) (N := some 135) (v := ?_) (a' := ?_) #[true, true, true, true, true, true, true, true, true, true, true, true, true, false] rfl rfl (by kernel_rfl) (fun _ _ _ h => h) (Or.inl ⟨by rfl, ?_⟩) ?_ ?_
      rotate_left
      · intro w'
        go_simp
        with_reducible rfl
      rotate_left
      · simp only [Act.put, List.setIfInBounds_toArray, List.set_cons_zero, List.set_cons_succ, i64_w, i32_w]
        rfl
      refine last_ (i := 13) (N := none) #[true, true, true, true, true, true, true, true, true, true, true, true, true, true] rfl rfl (by kernel_rfl) (by decide) (fun K hK => ?_)
      clear hHeld
      have hc : u3.cell? ⟨w.heap.size, 5, none⟩ = some (.slice (some ad5) s.ch.length c5) := blk_cell HG.out 5
      have hf := blk_frozen HG.out 5
      refine skip_ (w1 := ?_) (by rfl) rfl ?_ ?_
      rotate_left
      · go_simp
        rfl
      refine hK.out _ _ ?_
      clear hK K
      clear hc hf
      replace HG := Aside0.mk (show (u3.setCell ⟨w.heap.size, 5, none⟩ (.slice B5 s.ch.length d5)).heap[w.heap.size]? = some (.cells #[.slice (some ad) s.th.length c0, .slice B1 s.at_.length d1, .slice B2 s.su.length d2, .slice a3 s.lo.length c3, .slice a4 s.ce.length c4, .slice B5 s.ch.length d5] 26 (0, 0)) from blk_put HG.out 5 _ rfl)
      replace HZ := Aside0.mk (blk_far HZ.out (p := ⟨w.heap.size, 5, none⟩) (Nat.succ_ne_self _) (.slice B5 s.ch.length d5))
      replace HI := Aside0.mk (blk_far HI.out (p := ⟨w.heap.size, 5, none⟩) (Nat.ne_of_gt HWW.out) (.slice B5 s.ch.length d5))
      replace HSY := Aside0.mk (HSY.out.up (up_hid_put (q := ⟨w.heap.size, 5, none⟩) HQG.out (.slice B5 s.ch.length d5)))
      replace HN := Aside0.mk (CR_up HN.out (up_hid_put (q := ⟨w.heap.size, 5, none⟩) HQG.out (.slice B5 s.ch.length d5)))
      replace HSU := Aside0.mk (CI_up HSU.out (up_hid_put (q := ⟨w.heap.size, 5, none⟩) HQG.out (.slice B5 s.ch.length d5)))
      replace HB3 := Aside0.mk (below_put (k := 5) HB3.out (Nat.le_refl _) (.slice B5 s.ch.length d5))
      replace HSZ : Aside0 (w2.heap.size + 1 ≤ (u3.setCell ⟨w.heap.size, 5, none⟩ (.slice B5 s.ch.length d5)).heap.size) := ⟨by rw [setCell_size]; exact HSZ.out⟩
      generalize u3.setCell ⟨w.heap.size, 5, none⟩ (.slice B5 s.ch.length d5) = w6 at *
      refine done_ (by kernel_rfl) ?_
      have HF : Aside0 (SysC (hid Q w6) (doI ({ s with at_ := s.at_.set t ((k : Int) + 1) } : Syst) t ⟨o, (m : Int), n⟩) ⟨(some ad), c0, B1, d1, B2, d2, a3, c3, a4, c4, B5, d5⟩) := ⟨by rw [HDO.out]; exact { HSY.out with r2 := HSU.out, h2 := by rw [List.length_set]; exact HSUD.out, r5 := HN.out, h5 := by rw [List.length_set]; exact HND.out }⟩
      clear x0 x1 x2 x3 x4 x5
      obtain ⟨q0, q1, q2, q3, q4, q5⟩ := six_cells HG.out
      obtain ⟨x0, x1, x2, x3, x4, x5⟩ := six_frozen HG.out
      obtain ⟨z0, z1, z2, z3, z4, z5⟩ := six_cells HZ.out; obtain ⟨y0, y1, y2, y3, y4, y5⟩ := six_frozen HZ.out
      have i0 : w6.cell? ⟨w2.heap.size, 0, none⟩ = some (.int .i64 o) := blk_cell HI.out 0; have i1 : w6.cell? ⟨w2.heap.size, 1, none⟩ = some (.int .i64 m) := blk_cell HI.out 1; have i2 : w6.cell? ⟨w2.heap.size, 2, none⟩ = some (.int .i64 n) := blk_cell HI.out 2
      go_wp2
      refine bodyPost_ret (results_cell_row rfl _ _ (w.heap.size + 1) 26 _ (0, 0) _ rfl (six_put _ _ _ _ _ _ HZ.out) Try.underlying26 rfl (by kernel_rfl)) rfl ?_
      rw [HST.out]
      have hend := fun v0 v1 v2 v3 v4 v5 => ref_end (v0 := v0) (v1 := v1) (v2 := v2) (v3 := v3) (v4 := v4) (v5 := v5) HF.out HQ1.out HQP.out HB3.out
      exact ⟨⟨(some ad), c0, B1, d1, B2, d2, a3, c3, a4, c4, B5, d5⟩, by rw [HLD.out]; rfl, hend _ _ _ _ _ _⟩
end Go.Proofs.Ythnimpbcfegmjaa.Own

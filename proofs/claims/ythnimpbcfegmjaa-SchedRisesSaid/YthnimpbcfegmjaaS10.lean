/-
  sched.step, walked by hand.
-/
import Derived.Test.YthnimpbcfegmjaaA1
namespace Go.Proofs.Ythnimpbcfegmjaa.Own
open Go.RowKit Go.Proofs.YthnimpbcfegmjaaW.PrintWords Go.Proofs.YthnimpbcfegmjaaW.PrintLast Go.Proofs.YthnimpbcfegmjaaW.PrintMore Go.Proofs.Ythnimpbcfegmjaa.P Go.Proofs.Ythnimpbcfegmjaa.Model
set_option linter.unusedVariables false
set_option linter.unusedSimpArgs false

def StepP (w0 : World) (s : Syst) (w : World) (e : Ending) (w' : World) : Prop := ∃ p b us, e = .returned (.agg (sysA s p)) ∧ FinS w0 b w' s p us ∧ w.heap.size ≤ b ∧ Below w.heap.size w w'
theorem own_lt {w : World} {b n c : Nat} {e : TypeId} {A : Option Addr} {us : List Value} (h : w.ownsRow b e 1 (.slice A n c) n us) : ∀ g, ob A = some g → b ≤ g ∧ g < w.heap.size := by
  intro g hg
  rcases h.2 with ⟨h1, _⟩ | ⟨g', cap, cur, h1, h2, h3, _⟩
  · injection h1 with h1
    rw [h1] at hg
    cases hg
  · injection h1 with h1
    rw [h1] at hg
    injection hg with hg
    have e' : g' = g := hg
    rw [← e']
    exact ⟨h2, blk_lt h3⟩
theorem setCell_size (w : World) (a : Addr) (v : Value) : (w.setCell a v).heap.size = w.heap.size := by simp
theorem blk_low {w w' : World} {b g : Nat} {o : Obj} (hb : Below b w w') (hg : g < b) (h : w.heap[g]? = some o) : w'.heap[g]? = some o := (hb.block g hg).trans h
theorem cell_low {w w' : World} {b g j : Nat} {v : Value} (hb : Below b w w') (hg : g < b) (h : w.cell? ⟨g, j, none⟩ = some v) : w'.cell? ⟨g, j, none⟩ = some v := by
  rw [World.cell?_of_block (w := w) (hb.block g hg)]; exact h
theorem six_put {W : World} {g : Nat} {x0 x1 x2 x3 x4 x5 : Value} (v0 v1 v2 v3 v4 v5 : Value) (h : W.heap[g]? = some (.cells #[x0, x1, x2, x3, x4, x5] 26 (0, 0))) :
    ((((((W.setCell ⟨g, 0, none⟩ v0).setCell ⟨g, 1, none⟩ v1).setCell ⟨g, 2, none⟩ v2).setCell ⟨g, 3, none⟩ v3).setCell ⟨g, 4, none⟩ v4).setCell ⟨g, 5, none⟩ v5).heap[g]? = some (.cells #[v0, v1, v2, v3, v4, v5] 26 (0, 0)) :=
  blk_put (blk_put (blk_put (blk_put (blk_put (blk_put h 0 v0 rfl) 1 v1 rfl) 2 v2 rfl) 3 v3 rfl) 4 v4 rfl) 5 v5 rfl
theorem sysA_doI (s : Syst) (t : Nat) (i : S44) (p : Ad) : sysA (doI s t i) p = sysA s p := by
  unfold doI sysA
  dsimp only
  split
  · simp
  · split
    · split <;> simp
    · split
      · simp
      · split
        · simp
        · split <;> simp
set_option maxRecDepth 100000 in
set_option maxHeartbeats 16000000 in
theorem step_calls (w0 : World) (s : Syst) (p : Ad) (t : Nat) (i : S44) (w : World) (hC0 : SysC w0 s p) (hB0 : Up w0 w) (hS : Shp s) (ht : t < s.th.length) (hins : insA s t = some i) (hcan : canI s i = true) : Calls Try.prog 33 #[.agg (sysA s p), .int .i64 t] w (StepP w0 (stepS s t i) w) := by
  have hC := hC0.up hB0
  have HC0 := Aside0.mk hC0
  have HB00 := Aside0.mk hB0
  clear hC0 hB0
  obtain ⟨l, hl⟩ : ∃ l, s.th[t]? = some l := ⟨_, List.getElem?_eq_getElem ht⟩
  have htA : t < s.at_.length := by have := hS.at_; omega
  obtain ⟨a, ha⟩ : ∃ a, s.at_[t]? = some a := ⟨_, List.getElem?_eq_getElem htA⟩
  obtain ⟨hl16, ha0, hal, hok⟩ := hS.th t l a hl ha
  obtain ⟨k, rfl⟩ : ∃ k : Nat, a = k := ⟨a.toNat, by omega⟩
  have hB1 : Below w.heap.size w (w.alloc (.cells (sysA s p) 26)) := (Below.refl _ _).alloc (Nat.le_refl _) _
  have HB1 := Aside0.mk hB1
  have HC := Aside0.mk hC
  have hi : l[k]? = some i := by unfold insA at hins; rw [hl, ha] at hins; simpa using hins
  have hk : k < l.length := (List.getElem?_eq_some_iff.1 hi).1
  have HINS := Aside0.mk hins
  have HCAN := Aside0.mk hcan
  have HAT := Aside0.mk ha
  have HTH := Aside0.mk hl
  have hcw := hC.below (hB1.alloc hB1.size (.cells #[.slice none 0 0, .slice none 0 0, .slice none 0 0, .slice none 0 0, .slice none 0 0, .slice none 0 0] 26))
  obtain ⟨ad, A1, cc, e0, t0, t1, t2⟩ := at_L2 hcw.r0 (t : Int) (by omega) (by omega)
  obtain ⟨ad1, e1, t3⟩ := Kd.at_int hcw.r1 (t : Int) (by omega) (by omega)
  rw [rdT hl] at t0 t1 t2
  rw [rdI ha] at t3
  rw [Int.toNat_natCast] at t0 t3
  have HS := Aside0.mk hS
  have HOI : Aside0 (okI i = true) := ⟨hok i (List.mem_of_getElem? hi)⟩
  obtain ⟨ad2, e2, u0, u1, u2⟩ := at_T44 t2 (k : Int) (by omega) (by omega)
  subst e2
  rw [rd44 hi, Int.toNat_natCast] at u0 u1 u2
  obtain ⟨a0, c0, a1, c1, a2, c2, a3, c3, a4, c4, a5, c5⟩ := p
  unfold sysA at *
  dsimp only at *
  subst e0 e1
  clear hC hcw hB1 hS ha hl hok hins hcan hi t2
  go_enter Try.func33, Try.ntmps33
  go_wp2
  have HG := Aside0.mk (blk_alloc (blk_new w (.cells #[.slice (some ad) s.th.length c0, .slice (some ad1) s.at_.length c1, .slice a2 s.su.length c2, .slice a3 s.lo.length c3, .slice a4 s.ce.length c4, .slice a5 s.ch.length c5] 26)) (.cells #[.slice none 0 0, .slice none 0 0, .slice none 0 0, .slice none 0 0, .slice none 0 0, .slice none 0 0] 26))
  have hz := blk_new (w.alloc (.cells #[.slice (some ad) s.th.length c0, .slice (some ad1) s.at_.length c1, .slice a2 s.su.length c2, .slice a3 s.lo.length c3, .slice a4 s.ce.length c4, .slice a5 s.ch.length c5] 26)) (.cells #[.slice none 0 0, .slice none 0 0, .slice none 0 0, .slice none 0 0, .slice none 0 0, .slice none 0 0] 26)
  have hsz : (w.alloc (.cells #[.slice (some ad) s.th.length c0, .slice (some ad1) s.at_.length c1, .slice a2 s.su.length c2, .slice a3 s.lo.length c3, .slice a4 s.ce.length c4, .slice a5 s.ch.length c5] 26)).heap.size = w.heap.size + 1 := by simp
  rw [hsz] at hz
  have HZ := Aside0.mk hz
  have HB2 := Aside0.mk (HB1.out.alloc HB1.out.size (.cells #[.slice none 0 0, .slice none 0 0, .slice none 0 0, .slice none 0 0, .slice none 0 0, .slice none 0 0] 26))
  have q0 : ((w.alloc (.cells #[.slice (some ad) s.th.length c0, .slice (some ad1) s.at_.length c1, .slice a2 s.su.length c2, .slice a3 s.lo.length c3, .slice a4 s.ce.length c4, .slice a5 s.ch.length c5] 26)).alloc (.cells #[.slice none 0 0, .slice none 0 0, .slice none 0 0, .slice none 0 0, .slice none 0 0, .slice none 0 0] 26)).cell? ⟨w.heap.size, 0, none⟩ = some (.slice (some ad) s.th.length c0) := blk_cell HG.out 0
  have q1 : ((w.alloc (.cells #[.slice (some ad) s.th.length c0, .slice (some ad1) s.at_.length c1, .slice a2 s.su.length c2, .slice a3 s.lo.length c3, .slice a4 s.ce.length c4, .slice a5 s.ch.length c5] 26)).alloc (.cells #[.slice none 0 0, .slice none 0 0, .slice none 0 0, .slice none 0 0, .slice none 0 0, .slice none 0 0] 26)).cell? ⟨w.heap.size, 1, none⟩ = some (.slice (some ad1) s.at_.length c1) := blk_cell HG.out 1
  clear hz hsz HB1
  generalize ((w.alloc (.cells #[.slice (some ad) s.th.length c0, .slice (some ad1) s.at_.length c1, .slice a2 s.su.length c2, .slice a3 s.lo.length c3, .slice a4 s.ce.length c4, .slice a5 s.ch.length c5] 26)).alloc (.cells #[.slice none 0 0, .slice none 0 0, .slice none 0 0, .slice none 0 0, .slice none 0 0, .slice none 0 0] 26)) = w2 at *
  have HWW : Aside0 (w.heap.size < w2.heap.size) := ⟨blk_lt HG.out⟩
  have HWZ : Aside0 (w.heap.size + 1 < w2.heap.size) := ⟨blk_lt HZ.out⟩
  have hBA := (Below.refl w2.heap.size w2).alloc (Nat.le_refl _) (.cells #[.int .i64 0, .int .i64 0, .int .i64 0] 44)
  have q0' := pw_cell_below hBA q0
  have q1' := pw_cell_below hBA q1
  have t0' := pw_cell_below hBA t0
  have t3' := pw_cell_below hBA t3
  have u0' := pw_cell_below hBA u0
  have u1' := pw_cell_below hBA u1
  have u2' := pw_cell_below hBA u2
  clear hBA
  go_wp2
  go_region
  clear q0 q1 t0 t3 u0 u1 u2 q0' q1' t0' t3' u0' u1' u2'
  have hB3 := (below_drew ((Below.refl w2.heap.size w2).alloc (Nat.le_refl _) (.cells #[.int .i64 i.f0, .int .i64 i.f1, .int .i64 i.f2] 44)))
  have HB3 := Aside0.mk (HB2.out.trans (hB3.mono HB2.out.size))
  replace HG := Aside0.mk (blk_below HG.out hB3)
  replace HZ := Aside0.mk (blk_below HZ.out hB3)
  have hI : ((w2.alloc (.cells #[.int .i64 i.f0, .int .i64 i.f1, .int .i64 i.f2] 44)).drew).heap[w2.heap.size]? = some (.cells #[.int .i64 i.f0, .int .i64 i.f1, .int .i64 i.f2] 44 (0, 0)) := blk_new w2 _
  have HI := Aside0.mk hI
  clear hI hB3
  generalize (w2.alloc (.cells #[.int .i64 i.f0, .int .i64 i.f1, .int .i64 i.f2] 44)).drew = w3 at *
  have q1 : w3.cell? ⟨w.heap.size, 1, none⟩ = some (.slice (some ad1) s.at_.length c1) := blk_cell HG.out 1
  have q2 : w3.cell? ⟨w.heap.size, 2, none⟩ = some (.slice a2 s.su.length c2) := blk_cell HG.out 2
  have q3 : w3.cell? ⟨w.heap.size, 3, none⟩ = some (.slice a3 s.lo.length c3) := blk_cell HG.out 3
  have q4 : w3.cell? ⟨w.heap.size, 4, none⟩ = some (.slice a4 s.ce.length c4) := blk_cell HG.out 4
  have q5 : w3.cell? ⟨w.heap.size, 5, none⟩ = some (.slice a5 s.ch.length c5) := blk_cell HG.out 5
  clear HB2
  have HC3 := Aside0.mk (HC.out.below HB3.out)
  go_wp2
  have l1 : s.at_.length ≤ 100000 := by have := HS.out.at_; have := HS.out.n; omega
  have l2 : s.su.length ≤ 100000 := by have := HS.out.su; have := HS.out.n; omega
  have l3 : s.lo.length ≤ 100000 := by have := HS.out.lo; omega
  have l4 : s.ce.length ≤ 100000 := by have := HS.out.ce; omega
  have l5 : s.ch.length ≤ 100000 := by have := HS.out.ch; omega
  refine start_ (n := 25) (S := fun w' => w'.cell? ⟨w.heap.size, 1, none⟩ = some (.slice (some ad1) s.at_.length c1) ∧ w'.cell? ⟨w.heap.size, 2, none⟩ = some (.slice a2 s.su.length c2) ∧ w'.cell? ⟨w.heap.size, 3, none⟩ = some (.slice a3 s.lo.length c3) ∧ w'.cell? ⟨w.heap.size, 4, none⟩ = some (.slice a4 s.ce.length c4) ∧ w'.cell? ⟨w.heap.size, 5, none⟩ = some (.slice a5 s.ch.length c5)) (ds := [16, 18, 20, 22, 24]) #[false, false, false, false, false, false, false, false, false, false, false, false, false, false, false, false, false, false, false, false, false, false, false, false, false] (by kernel_rfl) rfl rfl ⟨q1, q2, q3, q4, q5⟩ (fun hHeld => ?_)
  replace HG := Aside0.mk (blk_drew HG.out)
  replace HZ := Aside0.mk (blk_drew HZ.out)
  replace HI := Aside0.mk (blk_drew HI.out)
  replace HC3 := Aside0.mk (HC3.out.below (below_drew (Below.refl _ _)))
  replace HB3 := Aside0.mk (below_drew HB3.out)
  clear q1 q2 q3 q4 q5
  generalize w3.drew = u0 at *
  have HL0 : Aside0 (w.heap.size < u0.heap.size) := ⟨blk_lt HG.out⟩
  have HL00 : Aside0 (w.heap.size + 1 < u0.heap.size) := ⟨blk_lt HZ.out⟩
  have HL01 : Aside0 (w2.heap.size < u0.heap.size) := ⟨blk_lt HI.out⟩
  have HU0 := Aside0.mk (Below.refl u0.heap.size u0)
  refine pure_ (i := 0) (N := some 18) (v := ?_) (a' := ?_) #[true, false, false, false, false, false, false, false, false, false, false, false, false, false, false, false, false, false, false, false, false, false, false, false, false] rfl rfl (by kernel_rfl) (fun _ _ _ h => h) (Or.inl ⟨by rfl, ?_⟩) ?_ ?_
  rotate_left
  · intro w'
    go_simp
    with_reducible rfl
  rotate_left
  · simp only [Act.put, List.setIfInBounds_toArray, List.set_cons_zero, List.set_cons_succ, i64_w, i32_w]
    rfl
  refine pure_ (i := 3) (N := some 21) (v := ?_) (a' := ?_) #[true, false, false, true, false, false, false, false, false, false, false, false, false, false, false, false, false, false, false, false, false, false, false, false, false] rfl rfl (by kernel_rfl) (fun _ _ _ h => h) (Or.inl ⟨by rfl, ?_⟩) ?_ ?_
  rotate_left
  · intro w'
    go_simp
    with_reducible rfl
  rotate_left
  · simp only [Act.put, List.setIfInBounds_toArray, List.set_cons_zero, List.set_cons_succ, i64_w, i32_w]
    rfl
  refine pure_ (i := 6) (N := some 24) (v := ?_) (a' := ?_) #[true, false, false, true, false, false, true, false, false, false, false, false, false, false, false, false, false, false, false, false, false, false, false, false, false] rfl rfl (by kernel_rfl) (fun _ _ _ h => h) (Or.inl ⟨by rfl, ?_⟩) ?_ ?_
  rotate_left
  · intro w'
    go_simp
    with_reducible rfl
  rotate_left
  · simp only [Act.put, List.setIfInBounds_toArray, List.set_cons_zero, List.set_cons_succ, i64_w, i32_w]
    rfl
  refine pure_ (i := 9) (N := some 27) (v := ?_) (a' := ?_) #[true, false, false, true, false, false, true, false, false, true, false, false, false, false, false, false, false, false, false, false, false, false, false, false, false] rfl rfl (by kernel_rfl) (fun _ _ _ h => h) (Or.inl ⟨by rfl, ?_⟩) ?_ ?_
  rotate_left
  · intro w'
    go_simp
    with_reducible rfl
  rotate_left
  · simp only [Act.put, List.setIfInBounds_toArray, List.set_cons_zero, List.set_cons_succ, i64_w, i32_w]
    rfl
  refine pure_ (i := 12) (N := some 30) (v := ?_) (a' := ?_) #[true, false, false, true, false, false, true, false, false, true, false, false, true, false, false, false, false, false, false, false, false, false, false, false, false] rfl rfl (by kernel_rfl) (fun _ _ _ h => h) (Or.inl ⟨by rfl, ?_⟩) ?_ ?_
  rotate_left
  · intro w'
    go_simp
    with_reducible rfl
  rotate_left
  · simp only [Act.put, List.setIfInBounds_toArray, List.set_cons_zero, List.set_cons_succ, i64_w, i32_w]
    rfl
  refine take_ (i := 1) (N := some 19) (v := ?_) (a' := ?_) #[true, true, false, true, false, false, true, false, false, true, false, false, true, false, false, false, false, false, false, false, false, false, false, false, false] rfl rfl (by kernel_rfl) (fun _ _ _ h => h) (Or.inl ⟨by rfl, ?_⟩) hHeld ?_ ?_
  rotate_left
  · rintro w' ⟨s0, s1, s2, s3, s4⟩
    go_simp
    with_reducible rfl
  rotate_left
  · simp only [Act.put, List.setIfInBounds_toArray, List.set_cons_zero, List.set_cons_succ, i64_w, i32_w]
    rfl
  refine take_ (i := 4) (N := some 22) (v := ?_) (a' := ?_) #[true, true, false, true, true, false, true, false, false, true, false, false, true, false, false, false, false, false, false, false, false, false, false, false, false] rfl rfl (by kernel_rfl) (fun _ _ _ h => h) (Or.inl ⟨by rfl, ?_⟩) hHeld ?_ ?_
  rotate_left
  · rintro w' ⟨s0, s1, s2, s3, s4⟩
    go_simp
    with_reducible rfl
  rotate_left
  · simp only [Act.put, List.setIfInBounds_toArray, List.set_cons_zero, List.set_cons_succ, i64_w, i32_w]
    rfl
  refine take_ (i := 7) (N := some 25) (v := ?_) (a' := ?_) #[true, true, false, true, true, false, true, true, false, true, false, false, true, false, false, false, false, false, false, false, false, false, false, false, false] rfl rfl (by kernel_rfl) (fun _ _ _ h => h) (Or.inl ⟨by rfl, ?_⟩) hHeld ?_ ?_
  rotate_left
  · rintro w' ⟨s0, s1, s2, s3, s4⟩
    go_simp
    with_reducible rfl
  rotate_left
  · simp only [Act.put, List.setIfInBounds_toArray, List.set_cons_zero, List.set_cons_succ, i64_w, i32_w]
    rfl
  refine take_ (i := 10) (N := some 28) (v := ?_) (a' := ?_) #[true, true, false, true, true, false, true, true, false, true, true, false, true, false, false, false, false, false, false, false, false, false, false, false, false] rfl rfl (by kernel_rfl) (fun _ _ _ h => h) (Or.inl ⟨by rfl, ?_⟩) hHeld ?_ ?_
  rotate_left
  · rintro w' ⟨s0, s1, s2, s3, s4⟩
    go_simp
    with_reducible rfl
  rotate_left
  · simp only [Act.put, List.setIfInBounds_toArray, List.set_cons_zero, List.set_cons_succ, i64_w, i32_w]
    rfl
  refine take_ (i := 13) (N := some 31) (v := ?_) (a' := ?_) #[true, true, false, true, true, false, true, true, false, true, true, false, true, true, false, false, false, false, false, false, false, false, false, false, false] rfl rfl (by kernel_rfl) (fun _ _ _ h => h) (Or.inl ⟨by rfl, ?_⟩) hHeld ?_ ?_
  rotate_left
  · rintro w' ⟨s0, s1, s2, s3, s4⟩
    go_simp
    with_reducible rfl
  rotate_left
  · simp only [Act.put, List.setIfInBounds_toArray, List.set_cons_zero, List.set_cons_succ, i64_w, i32_w]
    rfl
  refine one_ (i := 2) (N := some 20) #[true, true, true, true, true, false, true, true, false, true, true, false, true, true, false, false, false, false, false, false, false, false, false, false, false] rfl rfl (by kernel_rfl) (by decide) (fun K hK => ?_)
  refine goes_ Try.func17 (by kernel_rfl) rfl #[.slice (some ad1) s.at_.length c1] (by rfl) rfl rfl (by (try simp only [List.map_toArray, List.map_cons, List.map_nil]); first | done | rfl) ?_
  refine (clone_calls (some ad1) c1 s.at_ _ HC3.out.r1 l1).mono ?_
  rintro e u1 ⟨v, rfl, hr, hb⟩
  obtain ⟨B1, d1, rfl, -, -⟩ := rowI_C hr
  refine ⟨_, rfl, ?_⟩
  refine hK.out _ _ ⟨pw_cell_below hb hHeld.1, pw_cell_below hb hHeld.2.1, pw_cell_below hb hHeld.2.2.1, pw_cell_below hb hHeld.2.2.2.1, pw_cell_below hb hHeld.2.2.2.2⟩ (fun hHeld => ?_)
  have HL1 : Aside0 (∀ g, ob B1 = some g → u0.heap.size ≤ g ∧ g < u1.heap.size) := ⟨own_lt hr⟩
  have HZ1 : Aside0 (u0.heap.size ≤ u1.heap.size) := ⟨hb.size⟩
  replace HG := Aside0.mk (blk_below HG.out hb)
  replace HZ := Aside0.mk (blk_below HZ.out hb)
  replace HI := Aside0.mk (blk_below HI.out hb)
  replace HC3 := Aside0.mk (HC3.out.below hb)
  have HR1 := Aside0.mk (own_weaken hr HU0.out.size)
  replace HB3 := Aside0.mk (HB3.out.trans (hb.mono HB3.out.size))
  replace HU0 := Aside0.mk (HU0.out.trans (hb.mono HU0.out.size))
  clear hr hb
  clear hK K
  refine norm_ (a' := ?_) ?_ ?_
  rotate_left
  · show Act.put _ (some 20) _ = _
    simp only [Act.put, List.setIfInBounds_toArray, List.set_cons_zero, List.set_cons_succ, i64_w, i32_w]
    rfl
  refine pure_ (i := 15) (N := some 33) (v := ?_) (a' := ?_) #[true, true, true, true, true, false, true, true, false, true, true, false, true, true, false, true, false, false, false, false, false, false, false, false, false] rfl rfl (by kernel_rfl) (fun _ _ _ h => h) (Or.inl ⟨by rfl, ?_⟩) ?_ ?_
  rotate_left
  · intro w'
    go_simp
    with_reducible rfl
  rotate_left
  · simp only [Act.put, List.setIfInBounds_toArray, List.set_cons_zero, List.set_cons_succ, i64_w, i32_w]
    rfl
  refine one_ (i := 5) (N := some 23) #[true, true, true, true, true, true, true, true, false, true, true, false, true, true, false, true, false, false, false, false, false, false, false, false, false] rfl rfl (by kernel_rfl) (by decide) (fun K hK => ?_)
  refine goes_ Try.func17 (by kernel_rfl) rfl #[.slice a2 s.su.length c2] (by rfl) rfl rfl (by (try simp only [List.map_toArray, List.map_cons, List.map_nil]); first | done | rfl) ?_
  refine (clone_calls a2 c2 s.su _ HC3.out.r2 l2).mono ?_
  rintro e u2 ⟨v, rfl, hr, hb⟩
  obtain ⟨B2, d2, rfl, -, -⟩ := rowI_C hr
  refine ⟨_, rfl, ?_⟩
  refine hK.out _ _ ⟨pw_cell_below hb hHeld.1, pw_cell_below hb hHeld.2.1, pw_cell_below hb hHeld.2.2.1, pw_cell_below hb hHeld.2.2.2.1, pw_cell_below hb hHeld.2.2.2.2⟩ (fun hHeld => ?_)
  have HL2 : Aside0 (∀ g, ob B2 = some g → u1.heap.size ≤ g ∧ g < u2.heap.size) := ⟨own_lt hr⟩
  have HZ2 : Aside0 (u1.heap.size ≤ u2.heap.size) := ⟨hb.size⟩
  replace HG := Aside0.mk (blk_below HG.out hb)
  replace HZ := Aside0.mk (blk_below HZ.out hb)
  replace HI := Aside0.mk (blk_below HI.out hb)
  replace HC3 := Aside0.mk (HC3.out.below hb)
  replace HR1 := Aside0.mk (below_row HR1.out hb)
  have HR2 := Aside0.mk (own_weaken hr HU0.out.size)
  replace HB3 := Aside0.mk (HB3.out.trans (hb.mono HB3.out.size))
  replace HU0 := Aside0.mk (HU0.out.trans (hb.mono HU0.out.size))
  clear hr hb
  clear hK K
  refine norm_ (a' := ?_) ?_ ?_
  rotate_left
  · show Act.put _ (some 23) _ = _
    simp only [Act.put, List.setIfInBounds_toArray, List.set_cons_zero, List.set_cons_succ, i64_w, i32_w]
    rfl
  refine one_ (i := 8) (N := some 26) #[true, true, true, true, true, true, true, true, true, true, true, false, true, true, false, true, false, false, false, false, false, false, false, false, false] rfl rfl (by kernel_rfl) (by decide) (fun K hK => ?_)
  refine goes_ Try.func17 (by kernel_rfl) rfl #[.slice a3 s.lo.length c3] (by rfl) rfl rfl (by (try simp only [List.map_toArray, List.map_cons, List.map_nil]); first | done | rfl) ?_
  refine (clone_calls a3 c3 s.lo _ HC3.out.r3 l3).mono ?_
  rintro e u3 ⟨v, rfl, hr, hb⟩
  obtain ⟨B3, d3, rfl, -, -⟩ := rowI_C hr
  refine ⟨_, rfl, ?_⟩
  refine hK.out _ _ ⟨pw_cell_below hb hHeld.1, pw_cell_below hb hHeld.2.1, pw_cell_below hb hHeld.2.2.1, pw_cell_below hb hHeld.2.2.2.1, pw_cell_below hb hHeld.2.2.2.2⟩ (fun hHeld => ?_)
  have HL3 : Aside0 (∀ g, ob B3 = some g → u2.heap.size ≤ g ∧ g < u3.heap.size) := ⟨own_lt hr⟩
  have HZ3 : Aside0 (u2.heap.size ≤ u3.heap.size) := ⟨hb.size⟩
  replace HG := Aside0.mk (blk_below HG.out hb)
  replace HZ := Aside0.mk (blk_below HZ.out hb)
  replace HI := Aside0.mk (blk_below HI.out hb)
  replace HC3 := Aside0.mk (HC3.out.below hb)
  replace HR1 := Aside0.mk (below_row HR1.out hb)
  replace HR2 := Aside0.mk (below_row HR2.out hb)
  have HR3 := Aside0.mk (own_weaken hr HU0.out.size)
  replace HB3 := Aside0.mk (HB3.out.trans (hb.mono HB3.out.size))
  replace HU0 := Aside0.mk (HU0.out.trans (hb.mono HU0.out.size))
  clear hr hb
  clear hK K
  refine norm_ (a' := ?_) ?_ ?_
  rotate_left
  · show Act.put _ (some 26) _ = _
    simp only [Act.put, List.setIfInBounds_toArray, List.set_cons_zero, List.set_cons_succ, i64_w, i32_w]
    rfl
  refine one_ (i := 11) (N := some 29) #[true, true, true, true, true, true, true, true, true, true, true, true, true, true, false, true, false, false, false, false, false, false, false, false, false] rfl rfl (by kernel_rfl) (by decide) (fun K hK => ?_)
  refine goes_ Try.func17 (by kernel_rfl) rfl #[.slice a4 s.ce.length c4] (by rfl) rfl rfl (by (try simp only [List.map_toArray, List.map_cons, List.map_nil]); first | done | rfl) ?_
  refine (clone_calls a4 c4 s.ce _ HC3.out.r4 l4).mono ?_
  rintro e u4 ⟨v, rfl, hr, hb⟩
  obtain ⟨B4, d4, rfl, -, -⟩ := rowI_C hr
  refine ⟨_, rfl, ?_⟩
  refine hK.out _ _ ⟨pw_cell_below hb hHeld.1, pw_cell_below hb hHeld.2.1, pw_cell_below hb hHeld.2.2.1, pw_cell_below hb hHeld.2.2.2.1, pw_cell_below hb hHeld.2.2.2.2⟩ (fun hHeld => ?_)
  have HL4 : Aside0 (∀ g, ob B4 = some g → u3.heap.size ≤ g ∧ g < u4.heap.size) := ⟨own_lt hr⟩
  have HZ4 : Aside0 (u3.heap.size ≤ u4.heap.size) := ⟨hb.size⟩
  replace HG := Aside0.mk (blk_below HG.out hb)
  replace HZ := Aside0.mk (blk_below HZ.out hb)
  replace HI := Aside0.mk (blk_below HI.out hb)
  replace HC3 := Aside0.mk (HC3.out.below hb)
  replace HR1 := Aside0.mk (below_row HR1.out hb)
  replace HR2 := Aside0.mk (below_row HR2.out hb)
  replace HR3 := Aside0.mk (below_row HR3.out hb)
  have HR4 := Aside0.mk (own_weaken hr HU0.out.size)
  replace HB3 := Aside0.mk (HB3.out.trans (hb.mono HB3.out.size))
  replace HU0 := Aside0.mk (HU0.out.trans (hb.mono HU0.out.size))
  clear hr hb
  clear hK K
  refine norm_ (a' := ?_) ?_ ?_
  rotate_left
  · show Act.put _ (some 29) _ = _
    simp only [Act.put, List.setIfInBounds_toArray, List.set_cons_zero, List.set_cons_succ, i64_w, i32_w]
    rfl
  refine one_ (i := 14) (N := some 32) #[true, true, true, true, true, true, true, true, true, true, true, true, true, true, true, true, false, false, false, false, false, false, false, false, false] rfl rfl (by kernel_rfl) (by decide) (fun K hK => ?_)
  refine goes_ Try.func57 (by kernel_rfl) rfl #[.slice a5 s.ch.length c5] (by rfl) rfl rfl (by (try simp only [List.map_toArray, List.map_cons, List.map_nil]); first | done | rfl) ?_
  refine (cloneR0_calls a5 c5 s.ch w0 _ HC0.out.r5 (HB00.out.trans (up_below HB3.out)) l5).mono ?_
  rintro e u5 ⟨B5, d5, us, rfl, hr, hinn, hb⟩
  refine ⟨_, rfl, ?_⟩
  refine hK.out _ _ ⟨pw_cell_below hb hHeld.1, pw_cell_below hb hHeld.2.1, pw_cell_below hb hHeld.2.2.1, pw_cell_below hb hHeld.2.2.2.1, pw_cell_below hb hHeld.2.2.2.2⟩ (fun hHeld => ?_)
  have HL5 : Aside0 (∀ g, ob B5 = some g → u4.heap.size ≤ g ∧ g < u5.heap.size) := ⟨own_lt hr⟩
  have HZ5 : Aside0 (u4.heap.size ≤ u5.heap.size) := ⟨hb.size⟩
  replace HG := Aside0.mk (blk_below HG.out hb)
  replace HZ := Aside0.mk (blk_below HZ.out hb)
  replace HI := Aside0.mk (blk_below HI.out hb)
  replace HC3 := Aside0.mk (HC3.out.below hb)
  replace HR1 := Aside0.mk (below_row HR1.out hb)
  replace HR2 := Aside0.mk (below_row HR2.out hb)
  replace HR3 := Aside0.mk (below_row HR3.out hb)
  replace HR4 := Aside0.mk (below_row HR4.out hb)
  have HR5 := Aside0.mk (own_weaken hr HU0.out.size)
  have HINN := Aside0.mk hinn
  clear hinn
  replace HB3 := Aside0.mk (HB3.out.trans (hb.mono HB3.out.size))
  replace HU0 := Aside0.mk (HU0.out.trans (hb.mono HU0.out.size))
  clear hr hb
  clear hK K
  refine norm_ (a' := ?_) ?_ ?_
  rotate_left
  · show Act.put _ (some 32) _ = _
    simp only [Act.put, List.setIfInBounds_toArray, List.set_cons_zero, List.set_cons_succ, i64_w, i32_w]
    rfl
  refine last_ (i := 16) (N := none) #[true, true, true, true, true, true, true, true, true, true, true, true, true, true, true, true, true, false, false, false, false, false, false, false, false] rfl rfl (by kernel_rfl) (by decide) (fun K hK => ?_)
  have HSZ := Aside0.mk HU0.out.size
  clear HU0 HC3 hHeld
  have hc : u5.cell? ⟨w.heap.size, 1, none⟩ = some (.slice (some ad1) s.at_.length c1) := blk_cell HG.out 1
  have hf := blk_frozen HG.out 1
  refine skip_ (w1 := ?_) (by rfl) rfl ?_ ?_
  rotate_left
  · go_simp
    rfl
  refine hK.out _ _ ?_
  clear hK K
  clear hc hf
  have HG' : Aside0 ((u5.setCell ⟨w.heap.size, 1, none⟩ (.slice B1 s.at_.length d1)).heap[w.heap.size]? = some (.cells #[.slice (some ad) s.th.length c0, .slice B1 s.at_.length d1, .slice a2 s.su.length c2, .slice a3 s.lo.length c3, .slice a4 s.ce.length c4, .slice a5 s.ch.length c5] 26 (0, 0))) := ⟨blk_put HG.out 1 _ rfl⟩
  replace HZ := Aside0.mk (blk_far HZ.out (p := ⟨w.heap.size, 1, none⟩) (Nat.succ_ne_self _) (.slice B1 s.at_.length d1))
  replace HI := Aside0.mk (blk_far HI.out (p := ⟨w.heap.size, 1, none⟩) (Nat.ne_of_gt HWW.out) (.slice B1 s.at_.length d1))
  replace HR1 := Aside0.mk (own_low HR1.out (p := ⟨w.heap.size, 1, none⟩) HL0.out (.slice B1 s.at_.length d1))
  replace HR2 := Aside0.mk (own_low HR2.out (p := ⟨w.heap.size, 1, none⟩) HL0.out (.slice B1 s.at_.length d1))
  replace HR3 := Aside0.mk (own_low HR3.out (p := ⟨w.heap.size, 1, none⟩) HL0.out (.slice B1 s.at_.length d1))
  replace HR4 := Aside0.mk (own_low HR4.out (p := ⟨w.heap.size, 1, none⟩) HL0.out (.slice B1 s.at_.length d1))
  replace HR5 := Aside0.mk (own_low HR5.out (p := ⟨w.heap.size, 1, none⟩) HL0.out (.slice B1 s.at_.length d1))
  replace HB3 := Aside0.mk (below_put (k := 1) HB3.out (Nat.le_refl _) (.slice B1 s.at_.length d1))
  have HSZ' : Aside0 (u0.heap.size ≤ (u5.setCell ⟨w.heap.size, 1, none⟩ (.slice B1 s.at_.length d1)).heap.size) := ⟨by rw [setCell_size]; exact HSZ.out⟩
  clear HG HSZ
  have HG := HG'
  have HSZ := HSZ'
  clear HG' HSZ'
  generalize u5.setCell ⟨w.heap.size, 1, none⟩ (.slice B1 s.at_.length d1) = u6 at *
  refine pure_ (i := 17) (N := some 34) (v := ?_) (a' := ?_) #[true, true, true, true, true, true, true, true, true, true, true, true, true, true, true, true, true, true, false, false, false, false, false, false, false] rfl rfl (by kernel_rfl) (fun _ _ _ h => h) (Or.inl ⟨by rfl, ?_⟩) ?_ ?_
  rotate_left
  · intro w'
    go_simp
    with_reducible rfl
  rotate_left
  · simp only [Act.put, List.setIfInBounds_toArray, List.set_cons_zero, List.set_cons_succ, i64_w, i32_w]
    rfl
  refine last_ (i := 18) (N := none) #[true, true, true, true, true, true, true, true, true, true, true, true, true, true, true, true, true, true, true, false, false, false, false, false, false] rfl rfl (by kernel_rfl) (by decide) (fun K hK => ?_)
  have hc : u6.cell? ⟨w.heap.size, 2, none⟩ = some (.slice a2 s.su.length c2) := blk_cell HG.out 2
  have hf := blk_frozen HG.out 2
  refine skip_ (w1 := ?_) (by rfl) rfl ?_ ?_
  rotate_left
  · go_simp
    rfl
  refine hK.out _ _ ?_
  clear hK K
  clear hc hf
  have HG' : Aside0 ((u6.setCell ⟨w.heap.size, 2, none⟩ (.slice B2 s.su.length d2)).heap[w.heap.size]? = some (.cells #[.slice (some ad) s.th.length c0, .slice B1 s.at_.length d1, .slice B2 s.su.length d2, .slice a3 s.lo.length c3, .slice a4 s.ce.length c4, .slice a5 s.ch.length c5] 26 (0, 0))) := ⟨blk_put HG.out 2 _ rfl⟩
  replace HZ := Aside0.mk (blk_far HZ.out (p := ⟨w.heap.size, 2, none⟩) (Nat.succ_ne_self _) (.slice B2 s.su.length d2))
  replace HI := Aside0.mk (blk_far HI.out (p := ⟨w.heap.size, 2, none⟩) (Nat.ne_of_gt HWW.out) (.slice B2 s.su.length d2))
  replace HR1 := Aside0.mk (own_low HR1.out (p := ⟨w.heap.size, 2, none⟩) HL0.out (.slice B2 s.su.length d2))
  replace HR2 := Aside0.mk (own_low HR2.out (p := ⟨w.heap.size, 2, none⟩) HL0.out (.slice B2 s.su.length d2))
  replace HR3 := Aside0.mk (own_low HR3.out (p := ⟨w.heap.size, 2, none⟩) HL0.out (.slice B2 s.su.length d2))
  replace HR4 := Aside0.mk (own_low HR4.out (p := ⟨w.heap.size, 2, none⟩) HL0.out (.slice B2 s.su.length d2))
  replace HR5 := Aside0.mk (own_low HR5.out (p := ⟨w.heap.size, 2, none⟩) HL0.out (.slice B2 s.su.length d2))
  replace HB3 := Aside0.mk (below_put (k := 2) HB3.out (Nat.le_refl _) (.slice B2 s.su.length d2))
  have HSZ' : Aside0 (u0.heap.size ≤ (u6.setCell ⟨w.heap.size, 2, none⟩ (.slice B2 s.su.length d2)).heap.size) := ⟨by rw [setCell_size]; exact HSZ.out⟩
  clear HG HSZ
  have HG := HG'
  have HSZ := HSZ'
  clear HG' HSZ'
  generalize u6.setCell ⟨w.heap.size, 2, none⟩ (.slice B2 s.su.length d2) = u7 at *
  refine pure_ (i := 19) (N := some 35) (v := ?_) (a' := ?_) #[true, true, true, true, true, true, true, true, true, true, true, true, true, true, true, true, true, true, true, true, false, false, false, false, false] rfl rfl (by kernel_rfl) (fun _ _ _ h => h) (Or.inl ⟨by rfl, ?_⟩) ?_ ?_
  rotate_left
  · intro w'
    go_simp
    with_reducible rfl
  rotate_left
  · simp only [Act.put, List.setIfInBounds_toArray, List.set_cons_zero, List.set_cons_succ, i64_w, i32_w]
    rfl
  refine last_ (i := 20) (N := none) #[true, true, true, true, true, true, true, true, true, true, true, true, true, true, true, true, true, true, true, true, true, false, false, false, false] rfl rfl (by kernel_rfl) (by decide) (fun K hK => ?_)
  have hc : u7.cell? ⟨w.heap.size, 3, none⟩ = some (.slice a3 s.lo.length c3) := blk_cell HG.out 3
  have hf := blk_frozen HG.out 3
  refine skip_ (w1 := ?_) (by rfl) rfl ?_ ?_
  rotate_left
  · go_simp
    rfl
  refine hK.out _ _ ?_
  clear hK K
  clear hc hf
  have HG' : Aside0 ((u7.setCell ⟨w.heap.size, 3, none⟩ (.slice B3 s.lo.length d3)).heap[w.heap.size]? = some (.cells #[.slice (some ad) s.th.length c0, .slice B1 s.at_.length d1, .slice B2 s.su.length d2, .slice B3 s.lo.length d3, .slice a4 s.ce.length c4, .slice a5 s.ch.length c5] 26 (0, 0))) := ⟨blk_put HG.out 3 _ rfl⟩
  replace HZ := Aside0.mk (blk_far HZ.out (p := ⟨w.heap.size, 3, none⟩) (Nat.succ_ne_self _) (.slice B3 s.lo.length d3))
  replace HI := Aside0.mk (blk_far HI.out (p := ⟨w.heap.size, 3, none⟩) (Nat.ne_of_gt HWW.out) (.slice B3 s.lo.length d3))
  replace HR1 := Aside0.mk (own_low HR1.out (p := ⟨w.heap.size, 3, none⟩) HL0.out (.slice B3 s.lo.length d3))
  replace HR2 := Aside0.mk (own_low HR2.out (p := ⟨w.heap.size, 3, none⟩) HL0.out (.slice B3 s.lo.length d3))
  replace HR3 := Aside0.mk (own_low HR3.out (p := ⟨w.heap.size, 3, none⟩) HL0.out (.slice B3 s.lo.length d3))
  replace HR4 := Aside0.mk (own_low HR4.out (p := ⟨w.heap.size, 3, none⟩) HL0.out (.slice B3 s.lo.length d3))
  replace HR5 := Aside0.mk (own_low HR5.out (p := ⟨w.heap.size, 3, none⟩) HL0.out (.slice B3 s.lo.length d3))
  replace HB3 := Aside0.mk (below_put (k := 3) HB3.out (Nat.le_refl _) (.slice B3 s.lo.length d3))
  have HSZ' : Aside0 (u0.heap.size ≤ (u7.setCell ⟨w.heap.size, 3, none⟩ (.slice B3 s.lo.length d3)).heap.size) := ⟨by rw [setCell_size]; exact HSZ.out⟩
  clear HG HSZ
  have HG := HG'
  have HSZ := HSZ'
  clear HG' HSZ'
  generalize u7.setCell ⟨w.heap.size, 3, none⟩ (.slice B3 s.lo.length d3) = u8 at *
  refine pure_ (i := 21) (N := some 36) (v := ?_) (a' := ?_) #[true, true, true, true, true, true, true, true, true, true, true, true, true, true, true, true, true, true, true, true, true, true, false, false, false] rfl rfl (by kernel_rfl) (fun _ _ _ h => h) (Or.inl ⟨by rfl, ?_⟩) ?_ ?_
  rotate_left
  · intro w'
    go_simp
    with_reducible rfl
  rotate_left
  · simp only [Act.put, List.setIfInBounds_toArray, List.set_cons_zero, List.set_cons_succ, i64_w, i32_w]
    rfl
  refine last_ (i := 22) (N := none) #[true, true, true, true, true, true, true, true, true, true, true, true, true, true, true, true, true, true, true, true, true, true, true, false, false] rfl rfl (by kernel_rfl) (by decide) (fun K hK => ?_)
  have hc : u8.cell? ⟨w.heap.size, 4, none⟩ = some (.slice a4 s.ce.length c4) := blk_cell HG.out 4
  have hf := blk_frozen HG.out 4
  refine skip_ (w1 := ?_) (by rfl) rfl ?_ ?_
  rotate_left
  · go_simp
    rfl
  refine hK.out _ _ ?_
  clear hK K
  clear hc hf
  have HG' : Aside0 ((u8.setCell ⟨w.heap.size, 4, none⟩ (.slice B4 s.ce.length d4)).heap[w.heap.size]? = some (.cells #[.slice (some ad) s.th.length c0, .slice B1 s.at_.length d1, .slice B2 s.su.length d2, .slice B3 s.lo.length d3, .slice B4 s.ce.length d4, .slice a5 s.ch.length c5] 26 (0, 0))) := ⟨blk_put HG.out 4 _ rfl⟩
  replace HZ := Aside0.mk (blk_far HZ.out (p := ⟨w.heap.size, 4, none⟩) (Nat.succ_ne_self _) (.slice B4 s.ce.length d4))
  replace HI := Aside0.mk (blk_far HI.out (p := ⟨w.heap.size, 4, none⟩) (Nat.ne_of_gt HWW.out) (.slice B4 s.ce.length d4))
  replace HR1 := Aside0.mk (own_low HR1.out (p := ⟨w.heap.size, 4, none⟩) HL0.out (.slice B4 s.ce.length d4))
  replace HR2 := Aside0.mk (own_low HR2.out (p := ⟨w.heap.size, 4, none⟩) HL0.out (.slice B4 s.ce.length d4))
  replace HR3 := Aside0.mk (own_low HR3.out (p := ⟨w.heap.size, 4, none⟩) HL0.out (.slice B4 s.ce.length d4))
  replace HR4 := Aside0.mk (own_low HR4.out (p := ⟨w.heap.size, 4, none⟩) HL0.out (.slice B4 s.ce.length d4))
  replace HR5 := Aside0.mk (own_low HR5.out (p := ⟨w.heap.size, 4, none⟩) HL0.out (.slice B4 s.ce.length d4))
  replace HB3 := Aside0.mk (below_put (k := 4) HB3.out (Nat.le_refl _) (.slice B4 s.ce.length d4))
  have HSZ' : Aside0 (u0.heap.size ≤ (u8.setCell ⟨w.heap.size, 4, none⟩ (.slice B4 s.ce.length d4)).heap.size) := ⟨by rw [setCell_size]; exact HSZ.out⟩
  clear HG HSZ
  have HG := HG'
  have HSZ := HSZ'
  clear HG' HSZ'
  generalize u8.setCell ⟨w.heap.size, 4, none⟩ (.slice B4 s.ce.length d4) = u9 at *
  refine pure_ (i := 23) (N := some 37) (v := ?_) (a' := ?_) #[true, true, true, true, true, true, true, true, true, true, true, true, true, true, true, true, true, true, true, true, true, true, true, true, false] rfl rfl (by kernel_rfl) (fun _ _ _ h => h) (Or.inl ⟨by rfl, ?_⟩) ?_ ?_
  rotate_left
  · intro w'
    go_simp
    with_reducible rfl
  rotate_left
  · simp only [Act.put, List.setIfInBounds_toArray, List.set_cons_zero, List.set_cons_succ, i64_w, i32_w]
    rfl
  refine last_ (i := 24) (N := none) #[true, true, true, true, true, true, true, true, true, true, true, true, true, true, true, true, true, true, true, true, true, true, true, true, true] rfl rfl (by kernel_rfl) (by decide) (fun K hK => ?_)
  have hc : u9.cell? ⟨w.heap.size, 5, none⟩ = some (.slice a5 s.ch.length c5) := blk_cell HG.out 5
  have hf := blk_frozen HG.out 5
  refine skip_ (w1 := ?_) (by rfl) rfl ?_ ?_
  rotate_left
  · go_simp
    rfl
  refine hK.out _ _ ?_
  clear hK K
  clear hc hf
  have HG' : Aside0 ((u9.setCell ⟨w.heap.size, 5, none⟩ (.slice B5 s.ch.length d5)).heap[w.heap.size]? = some (.cells #[.slice (some ad) s.th.length c0, .slice B1 s.at_.length d1, .slice B2 s.su.length d2, .slice B3 s.lo.length d3, .slice B4 s.ce.length d4, .slice B5 s.ch.length d5] 26 (0, 0))) := ⟨blk_put HG.out 5 _ rfl⟩
  replace HZ := Aside0.mk (blk_far HZ.out (p := ⟨w.heap.size, 5, none⟩) (Nat.succ_ne_self _) (.slice B5 s.ch.length d5))
  replace HI := Aside0.mk (blk_far HI.out (p := ⟨w.heap.size, 5, none⟩) (Nat.ne_of_gt HWW.out) (.slice B5 s.ch.length d5))
  replace HR1 := Aside0.mk (own_low HR1.out (p := ⟨w.heap.size, 5, none⟩) HL0.out (.slice B5 s.ch.length d5))
  replace HR2 := Aside0.mk (own_low HR2.out (p := ⟨w.heap.size, 5, none⟩) HL0.out (.slice B5 s.ch.length d5))
  replace HR3 := Aside0.mk (own_low HR3.out (p := ⟨w.heap.size, 5, none⟩) HL0.out (.slice B5 s.ch.length d5))
  replace HR4 := Aside0.mk (own_low HR4.out (p := ⟨w.heap.size, 5, none⟩) HL0.out (.slice B5 s.ch.length d5))
  replace HR5 := Aside0.mk (own_low HR5.out (p := ⟨w.heap.size, 5, none⟩) HL0.out (.slice B5 s.ch.length d5))
  replace HB3 := Aside0.mk (below_put (k := 5) HB3.out (Nat.le_refl _) (.slice B5 s.ch.length d5))
  have HSZ' : Aside0 (u0.heap.size ≤ (u9.setCell ⟨w.heap.size, 5, none⟩ (.slice B5 s.ch.length d5)).heap.size) := ⟨by rw [setCell_size]; exact HSZ.out⟩
  clear HG HSZ
  have HG := HG'
  have HSZ := HSZ'
  clear HG' HSZ'
  generalize u9.setCell ⟨w.heap.size, 5, none⟩ (.slice B5 s.ch.length d5) = u10 at *
  refine done_ (by kernel_rfl) ?_
  have hdis : ∀ (x y : Option Nat) (lo1 hi1 lo2 hi2 : Nat), (∀ g, x = some g → lo1 ≤ g ∧ g < hi1) → (∀ g, y = some g → lo2 ≤ g ∧ g < hi2) → hi1 ≤ lo2 → x = y → x = none := by
    intro x y lo1 hi1 lo2 hi2 h1 h2 h3 e
    cases hx : x with
    | none => rfl
    | some g =>
      have := h1 g hx
      have := h2 g (e ▸ hx)
      omega
  have hown : OwnS w0 u0.heap.size u10 s ⟨some ad, c0, B1, d1, B2, d2, B3, d3, B4, d4, B5, d5⟩ us := { th := HC0.out.r0, h0 := HC0.out.h0, r1 := HR1.out, r2 := HR2.out, r3 := HR3.out, r4 := HR4.out, r5 := HR5.out, inn := HINN.out, d12 := hdis _ _ _ _ _ _ HL1.out HL2.out (by have := HZ2.out; have := HZ3.out; have := HZ4.out; omega), d13 := hdis _ _ _ _ _ _ HL1.out HL3.out (by have := HZ2.out; have := HZ3.out; have := HZ4.out; omega), d14 := hdis _ _ _ _ _ _ HL1.out HL4.out (by have := HZ2.out; have := HZ3.out; have := HZ4.out; omega), d15 := hdis _ _ _ _ _ _ HL1.out HL5.out (by have := HZ2.out; have := HZ3.out; have := HZ4.out; omega), d23 := hdis _ _ _ _ _ _ HL2.out HL3.out (by have := HZ2.out; have := HZ3.out; have := HZ4.out; omega), d24 := hdis _ _ _ _ _ _ HL2.out HL4.out (by have := HZ2.out; have := HZ3.out; have := HZ4.out; omega), d25 := hdis _ _ _ _ _ _ HL2.out HL5.out (by have := HZ2.out; have := HZ3.out; have := HZ4.out; omega), d34 := hdis _ _ _ _ _ _ HL3.out HL4.out (by have := HZ2.out; have := HZ3.out; have := HZ4.out; omega), d35 := hdis _ _ _ _ _ _ HL3.out HL5.out (by have := HZ2.out; have := HZ3.out; have := HZ4.out; omega), d45 := hdis _ _ _ _ _ _ HL4.out HL5.out (by have := HZ2.out; have := HZ3.out; have := HZ4.out; omega), bel := HB00.out.trans (up_below HB3.out), ge := Nat.le_trans HB00.out.size (Nat.le_of_lt HL0.out) }
  obtain ⟨g1, hg1, hge1, x1, x2⟩ := rowI_at hown.r1 t k HAT.out
  have hg1' : B1 = some ⟨g1, 0, none⟩ := hg1
  subst hg1'
  have HO2 := Aside0.mk (hown.set1 (g := g1) rfl t ((k : Int) + 1))
  have q1 : u10.cell? ⟨w.heap.size, 1, none⟩ = some (.slice (some ⟨g1, 0, none⟩) s.at_.length d1) := blk_cell HG.out 1
  have hgW : w.heap.size ≠ g1 := by have := HL0.out; omega
  have hgZ : w.heap.size + 1 ≠ g1 := by have := HL00.out; omega
  have hgI : w2.heap.size ≠ g1 := by have := HL01.out; omega
  have HG2 := Aside0.mk (blk_far HG.out (p := ⟨g1, t, none⟩) hgW (.int .i64 ((k : Int) + 1)))
  have HZ2' := Aside0.mk (blk_far HZ.out (p := ⟨g1, t, none⟩) hgZ (.int .i64 ((k : Int) + 1)))
  have HI2 := Aside0.mk (blk_far HI.out (p := ⟨g1, t, none⟩) hgI (.int .i64 ((k : Int) + 1)))
  have HBT := Aside0.mk (below_put (k := t) HB3.out (Nat.le_trans (Nat.le_of_lt HL0.out) hge1) (.int .i64 ((k : Int) + 1)))
  have HSZ2 : Aside0 (u0.heap.size ≤ (u10.setCell ⟨g1, t, none⟩ (.int .i64 ((k : Int) + 1))).heap.size) := ⟨by rw [setCell_size]; exact HSZ.out⟩
  clear hown hdis HR1 HR2 HR3 HR4 HR5 HG HZ HI hgW hgZ hgI hg1 HSZ HL1 HL2 HL3 HL4 HL5 HZ1 HZ2 HZ3 HZ4 HZ5 HINN
  go_wp2
  generalize u10.setCell ⟨g1, t, none⟩ (.int .i64 ((k : Int) + 1)) = u11 at *
  obtain ⟨s1, hs1⟩ : ∃ s1 : Syst, s1 = { s with at_ := s.at_.set t ((k : Int) + 1) } := ⟨_, rfl⟩
  have hsys : sysA s1 ⟨some ad, c0, some ⟨g1, 0, none⟩, d1, B2, d2, B3, d3, B4, d4, B5, d5⟩ = #[.slice (some ad) s.th.length c0, .slice (some ⟨g1, 0, none⟩) s.at_.length d1, .slice B2 s.su.length d2, .slice B3 s.lo.length d3, .slice B4 s.ce.length d4, .slice B5 s.ch.length d5] := by rw [hs1]; unfold sysA; simp
  have hst : stepS s t i = doI s1 t i := by unfold stepS; rw [hs1, getD_of HAT.out]
  have HST := Aside0.mk hst
  have hO2 := HO2.out
  rw [← hs1] at hO2
  have HO3 := Aside0.mk hO2
  have HSYS := Aside0.mk hsys
  have h4l : Aside0 (s1.lo.length = 4) := ⟨by rw [hs1]; exact HS.out.lo⟩
  have h4e : Aside0 (s1.ce.length = 4) := ⟨by rw [hs1]; exact HS.out.ce⟩
  have h4c : Aside0 (s1.ch.length = 4) := ⟨by rw [hs1]; exact HS.out.ch⟩
  have hsu : Aside0 (t < s1.su.length) := ⟨by rw [hs1]; have := HS.out.su; show t < s.su.length; omega⟩
  have hch2 : Aside0 (∀ l, l ∈ s1.ch → l.length ≤ 2) := ⟨by rw [hs1]; exact HS.out.chs⟩
  have HCN : Aside0 (canI s1 i = true) := ⟨by rw [hs1]; exact HCAN.out⟩
  have HLD : Aside0 (sysA (doI s1 t i) ⟨some ad, c0, some ⟨g1, 0, none⟩, d1, B2, d2, B3, d3, B4, d4, B5, d5⟩ = #[.slice (some ad) s.th.length c0, .slice (some ⟨g1, 0, none⟩) s.at_.length d1, .slice B2 s.su.length d2, .slice B3 s.lo.length d3, .slice B4 s.ce.length d4, .slice B5 s.ch.length d5]) := ⟨by rw [sysA_doI, hsys]⟩
  have q0 : u11.cell? ⟨w.heap.size, 0, none⟩ = some (.slice (some ad) s.th.length c0) := blk_cell HG2.out 0
  have q1 : u11.cell? ⟨w.heap.size, 1, none⟩ = some (.slice (some ⟨g1, 0, none⟩) s.at_.length d1) := blk_cell HG2.out 1
  have q2 : u11.cell? ⟨w.heap.size, 2, none⟩ = some (.slice B2 s.su.length d2) := blk_cell HG2.out 2
  have q3 : u11.cell? ⟨w.heap.size, 3, none⟩ = some (.slice B3 s.lo.length d3) := blk_cell HG2.out 3
  have q4 : u11.cell? ⟨w.heap.size, 4, none⟩ = some (.slice B4 s.ce.length d4) := blk_cell HG2.out 4
  have q5 : u11.cell? ⟨w.heap.size, 5, none⟩ = some (.slice B5 s.ch.length d5) := blk_cell HG2.out 5
  have i0 : u11.cell? ⟨w2.heap.size, 0, none⟩ = some (.int .i64 i.f0) := blk_cell HI2.out 0
  have i1 : u11.cell? ⟨w2.heap.size, 1, none⟩ = some (.int .i64 i.f1) := blk_cell HI2.out 1
  have i2 : u11.cell? ⟨w2.heap.size, 2, none⟩ = some (.int .i64 i.f2) := blk_cell HI2.out 2
  clear hO2 hsys hst hs1 HO2 HG2 HI2 HCAN HS x1 x2
  obtain ⟨o, na, n⟩ := i
  dsimp only at *
  obtain ⟨ho0, ho4, -⟩ := okI_bounds HOI.out
  dsimp only at ho0 ho4
  have hcases : o = 0 ∨ o = 1 ∨ o = 2 ∨ o = 3 ∨ o = 4 := by omega
  clear ho0 ho4
  rcases hcases with rfl | rfl | rfl | rfl | rfl
  · as_aux_lemma =>
    have qx : ∀ w : World, (Instr.index 82 kindsV (.int .i64 0)).run Try.prog w = .ok (.agg #[fn 63, fn 64]) w := fun _ => by kernel_rfl
    have qy : ∀ w : World, (Instr.field 81 (.agg #[fn 63, fn 64]) 1).run Try.prog w = .ok (fn 64) w := fun _ => by kernel_rfl
    have HK : Aside0 (∀ W, OwnS w0 u0.heap.size W s1 ⟨some ad, c0, some ⟨g1, 0, none⟩, d1, B2, d2, B3, d3, B4, d4, B5, d5⟩ us → u0.heap.size ≤ W.heap.size → Calls Try.prog 64 #[.agg #[.slice (some ad) s.th.length c0, .slice (some ⟨g1, 0, none⟩) s.at_.length d1, .slice B2 s.su.length d2, .slice B3 s.lo.length d3, .slice B4 s.ce.length d4, .slice B5 s.ch.length d5], .int .i64 t, iv ⟨0, na, n⟩] W (DoP w0 u0.heap.size (doI s1 t ⟨0, na, n⟩) ⟨some ad, c0, some ⟨g1, 0, none⟩, d1, B2, d2, B3, d3, B4, d4, B5, d5⟩ W)) := ⟨fun W h hb => by
      have h1 := lock_calls w0 _ s1 _ us t na n W h HOI.out h4l.out hb
      rw [HSYS.out] at h1
      exact h1⟩
    replace HBT := Aside0.mk (below_drew HBT.out)
    replace HO3 := Aside0.mk HO3.out.drew
    replace HZ2' := Aside0.mk (blk_drew HZ2'.out)
    replace HSZ2 : Aside0 (u0.heap.size ≤ u11.drew.heap.size) := ⟨HSZ2.out⟩
    go_region_held3 (fun w' => w'.cell? ⟨w.heap.size, 0, none⟩ = some (.slice (some ad) s.th.length c0) ∧ w'.cell? ⟨w.heap.size, 1, none⟩ = some (.slice (some ⟨g1, 0, none⟩) s.at_.length d1) ∧ w'.cell? ⟨w.heap.size, 2, none⟩ = some (.slice B2 s.su.length d2) ∧ w'.cell? ⟨w.heap.size, 3, none⟩ = some (.slice B3 s.lo.length d3) ∧ w'.cell? ⟨w.heap.size, 4, none⟩ = some (.slice B4 s.ce.length d4) ∧ w'.cell? ⟨w.heap.size, 5, none⟩ = some (.slice B5 s.ch.length d5) ∧ w'.cell? ⟨w2.heap.size, 0, none⟩ = some (.int .i64 0) ∧ w'.cell? ⟨w2.heap.size, 1, none⟩ = some (.int .i64 na) ∧ w'.cell? ⟨w2.heap.size, 2, none⟩ = some (.int .i64 n)) (go_keep) ((first | (go_at_call 58; refine (kinds_calls _).mono ?_; rintro e w' ⟨rfl, hb⟩; replace q0 := pw_cell_below hb q0; replace q1 := pw_cell_below hb q1; replace q2 := pw_cell_below hb q2; replace q3 := pw_cell_below hb q3; replace q4 := pw_cell_below hb q4; replace q5 := pw_cell_below hb q5; replace i0 := pw_cell_below hb i0; replace i1 := pw_cell_below hb i1; replace i2 := pw_cell_below hb i2; replace HBT := Aside0.mk (HBT.out.trans (hb.mono HBT.out.size)); replace HO3 := Aside0.mk (HO3.out.below hb); replace HZ2' := Aside0.mk (blk_below HZ2'.out hb); replace HSZ2 := Aside0.mk (Nat.le_trans HSZ2.out hb.size); clear hb) | (go_at_call 64; refine (HK.out _ HO3.out HSZ2.out).mono ?_; rintro e w'' ⟨us', rfl, hfin, hb⟩; replace q0 := cell_low hb HL0.out q0; replace q1 := cell_low hb HL0.out q1; replace q2 := cell_low hb HL0.out q2; replace q3 := cell_low hb HL0.out q3; replace q4 := cell_low hb HL0.out q4; replace q5 := cell_low hb HL0.out q5; replace i0 := cell_low hb HL01.out i0; replace i1 := cell_low hb HL01.out i1; replace i2 := cell_low hb HL01.out i2; replace HBT := Aside0.mk (HBT.out.trans (Below.mono hb (Nat.le_of_lt HL0.out))); have HF := Aside0.mk hfin; have HZ3' := Aside0.mk (blk_low hb HL00.out HZ2'.out); clear hb hfin)))
    all_goals (have z0 := blk_cell HZ3'.out 0; have y0 := blk_frozen HZ3'.out 0; have z1 := blk_cell HZ3'.out 1; have y1 := blk_frozen HZ3'.out 1; have z2 := blk_cell HZ3'.out 2; have y2 := blk_frozen HZ3'.out 2; have z3 := blk_cell HZ3'.out 3; have y3 := blk_frozen HZ3'.out 3; have z4 := blk_cell HZ3'.out 4; have y4 := blk_frozen HZ3'.out 4; have z5 := blk_cell HZ3'.out 5; have y5 := blk_frozen HZ3'.out 5; go_wp2; refine bodyPost_ret (results_cell_row rfl _ _ (w.heap.size + 1) 26 _ (0, 0) _ rfl (six_put _ _ _ _ _ _ HZ3'.out) Try.underlying26 rfl (by kernel_rfl)) rfl ?_; rw [HST.out]; exact ⟨_, _, _, by rw [HLD.out], ((((((HF.out.box (q := ⟨w.heap.size + 1, 0, none⟩) HL00.out (Nat.le_trans HB00.out.size (Nat.le_succ _)) _).box (q := ⟨w.heap.size + 1, 1, none⟩) HL00.out (Nat.le_trans HB00.out.size (Nat.le_succ _)) _).box (q := ⟨w.heap.size + 1, 2, none⟩) HL00.out (Nat.le_trans HB00.out.size (Nat.le_succ _)) _).box (q := ⟨w.heap.size + 1, 3, none⟩) HL00.out (Nat.le_trans HB00.out.size (Nat.le_succ _)) _).box (q := ⟨w.heap.size + 1, 4, none⟩) HL00.out (Nat.le_trans HB00.out.size (Nat.le_succ _)) _).box (q := ⟨w.heap.size + 1, 5, none⟩) HL00.out (Nat.le_trans HB00.out.size (Nat.le_succ _)) _), Nat.le_of_lt HL0.out, below_put (g := w.heap.size + 1) (k := 5) (below_put (g := w.heap.size + 1) (k := 4) (below_put (g := w.heap.size + 1) (k := 3) (below_put (g := w.heap.size + 1) (k := 2) (below_put (g := w.heap.size + 1) (k := 1) (below_put (g := w.heap.size + 1) (k := 0) (HBT.out) (Nat.le_succ _) _) (Nat.le_succ _) _) (Nat.le_succ _) _) (Nat.le_succ _) _) (Nat.le_succ _) _) (Nat.le_succ _) _⟩)
  · as_aux_lemma =>
    have qx : ∀ w : World, (Instr.index 82 kindsV (.int .i64 1)).run Try.prog w = .ok (.agg #[fn 65, fn 66]) w := fun _ => by kernel_rfl
    have qy : ∀ w : World, (Instr.field 81 (.agg #[fn 65, fn 66]) 1).run Try.prog w = .ok (fn 66) w := fun _ => by kernel_rfl
    have HK : Aside0 (∀ W, OwnS w0 u0.heap.size W s1 ⟨some ad, c0, some ⟨g1, 0, none⟩, d1, B2, d2, B3, d3, B4, d4, B5, d5⟩ us → u0.heap.size ≤ W.heap.size → Calls Try.prog 66 #[.agg #[.slice (some ad) s.th.length c0, .slice (some ⟨g1, 0, none⟩) s.at_.length d1, .slice B2 s.su.length d2, .slice B3 s.lo.length d3, .slice B4 s.ce.length d4, .slice B5 s.ch.length d5], .int .i64 t, iv ⟨1, na, n⟩] W (DoP w0 u0.heap.size (doI s1 t ⟨1, na, n⟩) ⟨some ad, c0, some ⟨g1, 0, none⟩, d1, B2, d2, B3, d3, B4, d4, B5, d5⟩ W)) := ⟨fun W h hb => by
      have h1 := unlock_calls w0 _ s1 _ us t na n W h HOI.out h4l.out hb
      rw [HSYS.out] at h1
      exact h1⟩
    replace HBT := Aside0.mk (below_drew HBT.out)
    replace HO3 := Aside0.mk HO3.out.drew
    replace HZ2' := Aside0.mk (blk_drew HZ2'.out)
    replace HSZ2 : Aside0 (u0.heap.size ≤ u11.drew.heap.size) := ⟨HSZ2.out⟩
    go_region_held3 (fun w' => w'.cell? ⟨w.heap.size, 0, none⟩ = some (.slice (some ad) s.th.length c0) ∧ w'.cell? ⟨w.heap.size, 1, none⟩ = some (.slice (some ⟨g1, 0, none⟩) s.at_.length d1) ∧ w'.cell? ⟨w.heap.size, 2, none⟩ = some (.slice B2 s.su.length d2) ∧ w'.cell? ⟨w.heap.size, 3, none⟩ = some (.slice B3 s.lo.length d3) ∧ w'.cell? ⟨w.heap.size, 4, none⟩ = some (.slice B4 s.ce.length d4) ∧ w'.cell? ⟨w.heap.size, 5, none⟩ = some (.slice B5 s.ch.length d5) ∧ w'.cell? ⟨w2.heap.size, 0, none⟩ = some (.int .i64 1) ∧ w'.cell? ⟨w2.heap.size, 1, none⟩ = some (.int .i64 na) ∧ w'.cell? ⟨w2.heap.size, 2, none⟩ = some (.int .i64 n)) (go_keep) ((first | (go_at_call 58; refine (kinds_calls _).mono ?_; rintro e w' ⟨rfl, hb⟩; replace q0 := pw_cell_below hb q0; replace q1 := pw_cell_below hb q1; replace q2 := pw_cell_below hb q2; replace q3 := pw_cell_below hb q3; replace q4 := pw_cell_below hb q4; replace q5 := pw_cell_below hb q5; replace i0 := pw_cell_below hb i0; replace i1 := pw_cell_below hb i1; replace i2 := pw_cell_below hb i2; replace HBT := Aside0.mk (HBT.out.trans (hb.mono HBT.out.size)); replace HO3 := Aside0.mk (HO3.out.below hb); replace HZ2' := Aside0.mk (blk_below HZ2'.out hb); replace HSZ2 := Aside0.mk (Nat.le_trans HSZ2.out hb.size); clear hb) | (go_at_call 66; refine (HK.out _ HO3.out HSZ2.out).mono ?_; rintro e w'' ⟨us', rfl, hfin, hb⟩; replace q0 := cell_low hb HL0.out q0; replace q1 := cell_low hb HL0.out q1; replace q2 := cell_low hb HL0.out q2; replace q3 := cell_low hb HL0.out q3; replace q4 := cell_low hb HL0.out q4; replace q5 := cell_low hb HL0.out q5; replace i0 := cell_low hb HL01.out i0; replace i1 := cell_low hb HL01.out i1; replace i2 := cell_low hb HL01.out i2; replace HBT := Aside0.mk (HBT.out.trans (Below.mono hb (Nat.le_of_lt HL0.out))); have HF := Aside0.mk hfin; have HZ3' := Aside0.mk (blk_low hb HL00.out HZ2'.out); clear hb hfin)))
    all_goals (have z0 := blk_cell HZ3'.out 0; have y0 := blk_frozen HZ3'.out 0; have z1 := blk_cell HZ3'.out 1; have y1 := blk_frozen HZ3'.out 1; have z2 := blk_cell HZ3'.out 2; have y2 := blk_frozen HZ3'.out 2; have z3 := blk_cell HZ3'.out 3; have y3 := blk_frozen HZ3'.out 3; have z4 := blk_cell HZ3'.out 4; have y4 := blk_frozen HZ3'.out 4; have z5 := blk_cell HZ3'.out 5; have y5 := blk_frozen HZ3'.out 5; go_wp2; refine bodyPost_ret (results_cell_row rfl _ _ (w.heap.size + 1) 26 _ (0, 0) _ rfl (six_put _ _ _ _ _ _ HZ3'.out) Try.underlying26 rfl (by kernel_rfl)) rfl ?_; rw [HST.out]; exact ⟨_, _, _, by rw [HLD.out], ((((((HF.out.box (q := ⟨w.heap.size + 1, 0, none⟩) HL00.out (Nat.le_trans HB00.out.size (Nat.le_succ _)) _).box (q := ⟨w.heap.size + 1, 1, none⟩) HL00.out (Nat.le_trans HB00.out.size (Nat.le_succ _)) _).box (q := ⟨w.heap.size + 1, 2, none⟩) HL00.out (Nat.le_trans HB00.out.size (Nat.le_succ _)) _).box (q := ⟨w.heap.size + 1, 3, none⟩) HL00.out (Nat.le_trans HB00.out.size (Nat.le_succ _)) _).box (q := ⟨w.heap.size + 1, 4, none⟩) HL00.out (Nat.le_trans HB00.out.size (Nat.le_succ _)) _).box (q := ⟨w.heap.size + 1, 5, none⟩) HL00.out (Nat.le_trans HB00.out.size (Nat.le_succ _)) _), Nat.le_of_lt HL0.out, below_put (g := w.heap.size + 1) (k := 5) (below_put (g := w.heap.size + 1) (k := 4) (below_put (g := w.heap.size + 1) (k := 3) (below_put (g := w.heap.size + 1) (k := 2) (below_put (g := w.heap.size + 1) (k := 1) (below_put (g := w.heap.size + 1) (k := 0) (HBT.out) (Nat.le_succ _) _) (Nat.le_succ _) _) (Nat.le_succ _) _) (Nat.le_succ _) _) (Nat.le_succ _) _) (Nat.le_succ _) _⟩)
  · as_aux_lemma =>
    have qx : ∀ w : World, (Instr.index 82 kindsV (.int .i64 2)).run Try.prog w = .ok (.agg #[fn 65, fn 67]) w := fun _ => by kernel_rfl
    have qy : ∀ w : World, (Instr.field 81 (.agg #[fn 65, fn 67]) 1).run Try.prog w = .ok (fn 67) w := fun _ => by kernel_rfl
    have HK : Aside0 (∀ W, OwnS w0 u0.heap.size W s1 ⟨some ad, c0, some ⟨g1, 0, none⟩, d1, B2, d2, B3, d3, B4, d4, B5, d5⟩ us → u0.heap.size ≤ W.heap.size → Calls Try.prog 67 #[.agg #[.slice (some ad) s.th.length c0, .slice (some ⟨g1, 0, none⟩) s.at_.length d1, .slice B2 s.su.length d2, .slice B3 s.lo.length d3, .slice B4 s.ce.length d4, .slice B5 s.ch.length d5], .int .i64 t, iv ⟨2, na, n⟩] W (DoP w0 u0.heap.size (doI s1 t ⟨2, na, n⟩) ⟨some ad, c0, some ⟨g1, 0, none⟩, d1, B2, d2, B3, d3, B4, d4, B5, d5⟩ W)) := ⟨fun W h hb => by
      have h1 := add_calls w0 _ s1 _ us t na n W h HOI.out h4e.out hb
      rw [HSYS.out] at h1
      exact h1⟩
    replace HBT := Aside0.mk (below_drew HBT.out)
    replace HO3 := Aside0.mk HO3.out.drew
    replace HZ2' := Aside0.mk (blk_drew HZ2'.out)
    replace HSZ2 : Aside0 (u0.heap.size ≤ u11.drew.heap.size) := ⟨HSZ2.out⟩
    go_region_held3 (fun w' => w'.cell? ⟨w.heap.size, 0, none⟩ = some (.slice (some ad) s.th.length c0) ∧ w'.cell? ⟨w.heap.size, 1, none⟩ = some (.slice (some ⟨g1, 0, none⟩) s.at_.length d1) ∧ w'.cell? ⟨w.heap.size, 2, none⟩ = some (.slice B2 s.su.length d2) ∧ w'.cell? ⟨w.heap.size, 3, none⟩ = some (.slice B3 s.lo.length d3) ∧ w'.cell? ⟨w.heap.size, 4, none⟩ = some (.slice B4 s.ce.length d4) ∧ w'.cell? ⟨w.heap.size, 5, none⟩ = some (.slice B5 s.ch.length d5) ∧ w'.cell? ⟨w2.heap.size, 0, none⟩ = some (.int .i64 2) ∧ w'.cell? ⟨w2.heap.size, 1, none⟩ = some (.int .i64 na) ∧ w'.cell? ⟨w2.heap.size, 2, none⟩ = some (.int .i64 n)) (go_keep) ((first | (go_at_call 58; refine (kinds_calls _).mono ?_; rintro e w' ⟨rfl, hb⟩; replace q0 := pw_cell_below hb q0; replace q1 := pw_cell_below hb q1; replace q2 := pw_cell_below hb q2; replace q3 := pw_cell_below hb q3; replace q4 := pw_cell_below hb q4; replace q5 := pw_cell_below hb q5; replace i0 := pw_cell_below hb i0; replace i1 := pw_cell_below hb i1; replace i2 := pw_cell_below hb i2; replace HBT := Aside0.mk (HBT.out.trans (hb.mono HBT.out.size)); replace HO3 := Aside0.mk (HO3.out.below hb); replace HZ2' := Aside0.mk (blk_below HZ2'.out hb); replace HSZ2 := Aside0.mk (Nat.le_trans HSZ2.out hb.size); clear hb) | (go_at_call 67; refine (HK.out _ HO3.out HSZ2.out).mono ?_; rintro e w'' ⟨us', rfl, hfin, hb⟩; replace q0 := cell_low hb HL0.out q0; replace q1 := cell_low hb HL0.out q1; replace q2 := cell_low hb HL0.out q2; replace q3 := cell_low hb HL0.out q3; replace q4 := cell_low hb HL0.out q4; replace q5 := cell_low hb HL0.out q5; replace i0 := cell_low hb HL01.out i0; replace i1 := cell_low hb HL01.out i1; replace i2 := cell_low hb HL01.out i2; replace HBT := Aside0.mk (HBT.out.trans (Below.mono hb (Nat.le_of_lt HL0.out))); have HF := Aside0.mk hfin; have HZ3' := Aside0.mk (blk_low hb HL00.out HZ2'.out); clear hb hfin)))
    all_goals (have z0 := blk_cell HZ3'.out 0; have y0 := blk_frozen HZ3'.out 0; have z1 := blk_cell HZ3'.out 1; have y1 := blk_frozen HZ3'.out 1; have z2 := blk_cell HZ3'.out 2; have y2 := blk_frozen HZ3'.out 2; have z3 := blk_cell HZ3'.out 3; have y3 := blk_frozen HZ3'.out 3; have z4 := blk_cell HZ3'.out 4; have y4 := blk_frozen HZ3'.out 4; have z5 := blk_cell HZ3'.out 5; have y5 := blk_frozen HZ3'.out 5; go_wp2; refine bodyPost_ret (results_cell_row rfl _ _ (w.heap.size + 1) 26 _ (0, 0) _ rfl (six_put _ _ _ _ _ _ HZ3'.out) Try.underlying26 rfl (by kernel_rfl)) rfl ?_; rw [HST.out]; exact ⟨_, _, _, by rw [HLD.out], ((((((HF.out.box (q := ⟨w.heap.size + 1, 0, none⟩) HL00.out (Nat.le_trans HB00.out.size (Nat.le_succ _)) _).box (q := ⟨w.heap.size + 1, 1, none⟩) HL00.out (Nat.le_trans HB00.out.size (Nat.le_succ _)) _).box (q := ⟨w.heap.size + 1, 2, none⟩) HL00.out (Nat.le_trans HB00.out.size (Nat.le_succ _)) _).box (q := ⟨w.heap.size + 1, 3, none⟩) HL00.out (Nat.le_trans HB00.out.size (Nat.le_succ _)) _).box (q := ⟨w.heap.size + 1, 4, none⟩) HL00.out (Nat.le_trans HB00.out.size (Nat.le_succ _)) _).box (q := ⟨w.heap.size + 1, 5, none⟩) HL00.out (Nat.le_trans HB00.out.size (Nat.le_succ _)) _), Nat.le_of_lt HL0.out, below_put (g := w.heap.size + 1) (k := 5) (below_put (g := w.heap.size + 1) (k := 4) (below_put (g := w.heap.size + 1) (k := 3) (below_put (g := w.heap.size + 1) (k := 2) (below_put (g := w.heap.size + 1) (k := 1) (below_put (g := w.heap.size + 1) (k := 0) (HBT.out) (Nat.le_succ _) _) (Nat.le_succ _) _) (Nat.le_succ _) _) (Nat.le_succ _) _) (Nat.le_succ _) _) (Nat.le_succ _) _⟩)
  · as_aux_lemma =>
    have qx : ∀ w : World, (Instr.index 82 kindsV (.int .i64 3)).run Try.prog w = .ok (.agg #[fn 68, fn 69]) w := fun _ => by kernel_rfl
    have qy : ∀ w : World, (Instr.field 81 (.agg #[fn 68, fn 69]) 1).run Try.prog w = .ok (fn 69) w := fun _ => by kernel_rfl
    have HK : Aside0 (∀ W, OwnS w0 u0.heap.size W s1 ⟨some ad, c0, some ⟨g1, 0, none⟩, d1, B2, d2, B3, d3, B4, d4, B5, d5⟩ us → u0.heap.size ≤ W.heap.size → Calls Try.prog 69 #[.agg #[.slice (some ad) s.th.length c0, .slice (some ⟨g1, 0, none⟩) s.at_.length d1, .slice B2 s.su.length d2, .slice B3 s.lo.length d3, .slice B4 s.ce.length d4, .slice B5 s.ch.length d5], .int .i64 t, iv ⟨3, na, n⟩] W (DoP w0 u0.heap.size (doI s1 t ⟨3, na, n⟩) ⟨some ad, c0, some ⟨g1, 0, none⟩, d1, B2, d2, B3, d3, B4, d4, B5, d5⟩ W)) := ⟨fun W h hb => by
      have h1 := send_calls w0 _ s1 _ us t na n W h HOI.out h4c.out hch2.out hb
      rw [HSYS.out] at h1
      exact h1⟩
    replace HBT := Aside0.mk (below_drew HBT.out)
    replace HO3 := Aside0.mk HO3.out.drew
    replace HZ2' := Aside0.mk (blk_drew HZ2'.out)
    replace HSZ2 : Aside0 (u0.heap.size ≤ u11.drew.heap.size) := ⟨HSZ2.out⟩
    go_region_held3 (fun w' => w'.cell? ⟨w.heap.size, 0, none⟩ = some (.slice (some ad) s.th.length c0) ∧ w'.cell? ⟨w.heap.size, 1, none⟩ = some (.slice (some ⟨g1, 0, none⟩) s.at_.length d1) ∧ w'.cell? ⟨w.heap.size, 2, none⟩ = some (.slice B2 s.su.length d2) ∧ w'.cell? ⟨w.heap.size, 3, none⟩ = some (.slice B3 s.lo.length d3) ∧ w'.cell? ⟨w.heap.size, 4, none⟩ = some (.slice B4 s.ce.length d4) ∧ w'.cell? ⟨w.heap.size, 5, none⟩ = some (.slice B5 s.ch.length d5) ∧ w'.cell? ⟨w2.heap.size, 0, none⟩ = some (.int .i64 3) ∧ w'.cell? ⟨w2.heap.size, 1, none⟩ = some (.int .i64 na) ∧ w'.cell? ⟨w2.heap.size, 2, none⟩ = some (.int .i64 n)) (go_keep) ((first | (go_at_call 58; refine (kinds_calls _).mono ?_; rintro e w' ⟨rfl, hb⟩; replace q0 := pw_cell_below hb q0; replace q1 := pw_cell_below hb q1; replace q2 := pw_cell_below hb q2; replace q3 := pw_cell_below hb q3; replace q4 := pw_cell_below hb q4; replace q5 := pw_cell_below hb q5; replace i0 := pw_cell_below hb i0; replace i1 := pw_cell_below hb i1; replace i2 := pw_cell_below hb i2; replace HBT := Aside0.mk (HBT.out.trans (hb.mono HBT.out.size)); replace HO3 := Aside0.mk (HO3.out.below hb); replace HZ2' := Aside0.mk (blk_below HZ2'.out hb); replace HSZ2 := Aside0.mk (Nat.le_trans HSZ2.out hb.size); clear hb) | (go_at_call 69; refine (HK.out _ HO3.out HSZ2.out).mono ?_; rintro e w'' ⟨us', rfl, hfin, hb⟩; replace q0 := cell_low hb HL0.out q0; replace q1 := cell_low hb HL0.out q1; replace q2 := cell_low hb HL0.out q2; replace q3 := cell_low hb HL0.out q3; replace q4 := cell_low hb HL0.out q4; replace q5 := cell_low hb HL0.out q5; replace i0 := cell_low hb HL01.out i0; replace i1 := cell_low hb HL01.out i1; replace i2 := cell_low hb HL01.out i2; replace HBT := Aside0.mk (HBT.out.trans (Below.mono hb (Nat.le_of_lt HL0.out))); have HF := Aside0.mk hfin; have HZ3' := Aside0.mk (blk_low hb HL00.out HZ2'.out); clear hb hfin)))
    all_goals (have z0 := blk_cell HZ3'.out 0; have y0 := blk_frozen HZ3'.out 0; have z1 := blk_cell HZ3'.out 1; have y1 := blk_frozen HZ3'.out 1; have z2 := blk_cell HZ3'.out 2; have y2 := blk_frozen HZ3'.out 2; have z3 := blk_cell HZ3'.out 3; have y3 := blk_frozen HZ3'.out 3; have z4 := blk_cell HZ3'.out 4; have y4 := blk_frozen HZ3'.out 4; have z5 := blk_cell HZ3'.out 5; have y5 := blk_frozen HZ3'.out 5; go_wp2; refine bodyPost_ret (results_cell_row rfl _ _ (w.heap.size + 1) 26 _ (0, 0) _ rfl (six_put _ _ _ _ _ _ HZ3'.out) Try.underlying26 rfl (by kernel_rfl)) rfl ?_; rw [HST.out]; exact ⟨_, _, _, by rw [HLD.out], ((((((HF.out.box (q := ⟨w.heap.size + 1, 0, none⟩) HL00.out (Nat.le_trans HB00.out.size (Nat.le_succ _)) _).box (q := ⟨w.heap.size + 1, 1, none⟩) HL00.out (Nat.le_trans HB00.out.size (Nat.le_succ _)) _).box (q := ⟨w.heap.size + 1, 2, none⟩) HL00.out (Nat.le_trans HB00.out.size (Nat.le_succ _)) _).box (q := ⟨w.heap.size + 1, 3, none⟩) HL00.out (Nat.le_trans HB00.out.size (Nat.le_succ _)) _).box (q := ⟨w.heap.size + 1, 4, none⟩) HL00.out (Nat.le_trans HB00.out.size (Nat.le_succ _)) _).box (q := ⟨w.heap.size + 1, 5, none⟩) HL00.out (Nat.le_trans HB00.out.size (Nat.le_succ _)) _), Nat.le_of_lt HL0.out, below_put (g := w.heap.size + 1) (k := 5) (below_put (g := w.heap.size + 1) (k := 4) (below_put (g := w.heap.size + 1) (k := 3) (below_put (g := w.heap.size + 1) (k := 2) (below_put (g := w.heap.size + 1) (k := 1) (below_put (g := w.heap.size + 1) (k := 0) (HBT.out) (Nat.le_succ _) _) (Nat.le_succ _) _) (Nat.le_succ _) _) (Nat.le_succ _) _) (Nat.le_succ _) _) (Nat.le_succ _) _⟩)
  · as_aux_lemma =>
    have qx : ∀ w : World, (Instr.index 82 kindsV (.int .i64 4)).run Try.prog w = .ok (.agg #[fn 71, fn 72]) w := fun _ => by kernel_rfl
    have qy : ∀ w : World, (Instr.field 81 (.agg #[fn 71, fn 72]) 1).run Try.prog w = .ok (fn 72) w := fun _ => by kernel_rfl
    have HK : Aside0 (∀ W, OwnS w0 u0.heap.size W s1 ⟨some ad, c0, some ⟨g1, 0, none⟩, d1, B2, d2, B3, d3, B4, d4, B5, d5⟩ us → u0.heap.size ≤ W.heap.size → Calls Try.prog 72 #[.agg #[.slice (some ad) s.th.length c0, .slice (some ⟨g1, 0, none⟩) s.at_.length d1, .slice B2 s.su.length d2, .slice B3 s.lo.length d3, .slice B4 s.ce.length d4, .slice B5 s.ch.length d5], .int .i64 t, iv ⟨4, na, n⟩] W (DoP w0 u0.heap.size (doI s1 t ⟨4, na, n⟩) ⟨some ad, c0, some ⟨g1, 0, none⟩, d1, B2, d2, B3, d3, B4, d4, B5, d5⟩ W)) := ⟨fun W h hb => by
      have h1 := recv_calls w0 _ s1 _ us t na n W h HOI.out h4c.out hsu.out HCN.out hch2.out hb
      rw [HSYS.out] at h1
      exact h1⟩
    replace HBT := Aside0.mk (below_drew HBT.out)
    replace HO3 := Aside0.mk HO3.out.drew
    replace HZ2' := Aside0.mk (blk_drew HZ2'.out)
    replace HSZ2 : Aside0 (u0.heap.size ≤ u11.drew.heap.size) := ⟨HSZ2.out⟩
    go_region_held3 (fun w' => w'.cell? ⟨w.heap.size, 0, none⟩ = some (.slice (some ad) s.th.length c0) ∧ w'.cell? ⟨w.heap.size, 1, none⟩ = some (.slice (some ⟨g1, 0, none⟩) s.at_.length d1) ∧ w'.cell? ⟨w.heap.size, 2, none⟩ = some (.slice B2 s.su.length d2) ∧ w'.cell? ⟨w.heap.size, 3, none⟩ = some (.slice B3 s.lo.length d3) ∧ w'.cell? ⟨w.heap.size, 4, none⟩ = some (.slice B4 s.ce.length d4) ∧ w'.cell? ⟨w.heap.size, 5, none⟩ = some (.slice B5 s.ch.length d5) ∧ w'.cell? ⟨w2.heap.size, 0, none⟩ = some (.int .i64 4) ∧ w'.cell? ⟨w2.heap.size, 1, none⟩ = some (.int .i64 na) ∧ w'.cell? ⟨w2.heap.size, 2, none⟩ = some (.int .i64 n)) (go_keep) ((first | (go_at_call 58; refine (kinds_calls _).mono ?_; rintro e w' ⟨rfl, hb⟩; replace q0 := pw_cell_below hb q0; replace q1 := pw_cell_below hb q1; replace q2 := pw_cell_below hb q2; replace q3 := pw_cell_below hb q3; replace q4 := pw_cell_below hb q4; replace q5 := pw_cell_below hb q5; replace i0 := pw_cell_below hb i0; replace i1 := pw_cell_below hb i1; replace i2 := pw_cell_below hb i2; replace HBT := Aside0.mk (HBT.out.trans (hb.mono HBT.out.size)); replace HO3 := Aside0.mk (HO3.out.below hb); replace HZ2' := Aside0.mk (blk_below HZ2'.out hb); replace HSZ2 := Aside0.mk (Nat.le_trans HSZ2.out hb.size); clear hb) | (go_at_call 72; refine (HK.out _ HO3.out HSZ2.out).mono ?_; rintro e w'' ⟨us', rfl, hfin, hb⟩; replace q0 := cell_low hb HL0.out q0; replace q1 := cell_low hb HL0.out q1; replace q2 := cell_low hb HL0.out q2; replace q3 := cell_low hb HL0.out q3; replace q4 := cell_low hb HL0.out q4; replace q5 := cell_low hb HL0.out q5; replace i0 := cell_low hb HL01.out i0; replace i1 := cell_low hb HL01.out i1; replace i2 := cell_low hb HL01.out i2; replace HBT := Aside0.mk (HBT.out.trans (Below.mono hb (Nat.le_of_lt HL0.out))); have HF := Aside0.mk hfin; have HZ3' := Aside0.mk (blk_low hb HL00.out HZ2'.out); clear hb hfin)))
    all_goals (have z0 := blk_cell HZ3'.out 0; have y0 := blk_frozen HZ3'.out 0; have z1 := blk_cell HZ3'.out 1; have y1 := blk_frozen HZ3'.out 1; have z2 := blk_cell HZ3'.out 2; have y2 := blk_frozen HZ3'.out 2; have z3 := blk_cell HZ3'.out 3; have y3 := blk_frozen HZ3'.out 3; have z4 := blk_cell HZ3'.out 4; have y4 := blk_frozen HZ3'.out 4; have z5 := blk_cell HZ3'.out 5; have y5 := blk_frozen HZ3'.out 5; go_wp2; refine bodyPost_ret (results_cell_row rfl _ _ (w.heap.size + 1) 26 _ (0, 0) _ rfl (six_put _ _ _ _ _ _ HZ3'.out) Try.underlying26 rfl (by kernel_rfl)) rfl ?_; rw [HST.out]; exact ⟨_, _, _, by rw [HLD.out], ((((((HF.out.box (q := ⟨w.heap.size + 1, 0, none⟩) HL00.out (Nat.le_trans HB00.out.size (Nat.le_succ _)) _).box (q := ⟨w.heap.size + 1, 1, none⟩) HL00.out (Nat.le_trans HB00.out.size (Nat.le_succ _)) _).box (q := ⟨w.heap.size + 1, 2, none⟩) HL00.out (Nat.le_trans HB00.out.size (Nat.le_succ _)) _).box (q := ⟨w.heap.size + 1, 3, none⟩) HL00.out (Nat.le_trans HB00.out.size (Nat.le_succ _)) _).box (q := ⟨w.heap.size + 1, 4, none⟩) HL00.out (Nat.le_trans HB00.out.size (Nat.le_succ _)) _).box (q := ⟨w.heap.size + 1, 5, none⟩) HL00.out (Nat.le_trans HB00.out.size (Nat.le_succ _)) _), Nat.le_of_lt HL0.out, below_put (g := w.heap.size + 1) (k := 5) (below_put (g := w.heap.size + 1) (k := 4) (below_put (g := w.heap.size + 1) (k := 3) (below_put (g := w.heap.size + 1) (k := 2) (below_put (g := w.heap.size + 1) (k := 1) (below_put (g := w.heap.size + 1) (k := 0) (HBT.out) (Nat.le_succ _) _) (Nat.le_succ _) _) (Nat.le_succ _) _) (Nat.le_succ _) _) (Nat.le_succ _) _) (Nat.le_succ _) _⟩)
end Go.Proofs.Ythnimpbcfegmjaa.Own

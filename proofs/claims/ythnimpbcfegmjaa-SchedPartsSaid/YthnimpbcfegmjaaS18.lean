/-
  sched.New, walked by hand: its region makes six blocks in any order.
-/
import Derived.Test.YthnimpbcfegmjaaS17
namespace Go.Proofs.Ythnimpbcfegmjaa.Own
open Go.RowKit Go.Proofs.YthnimpbcfegmjaaW.PrintWords Go.Proofs.YthnimpbcfegmjaaW.PrintLast Go.Proofs.YthnimpbcfegmjaaW.PrintMore Go.Proofs.Ythnimpbcfegmjaa.P Go.Proofs.Ythnimpbcfegmjaa.Model
set_option linter.unusedVariables false
set_option linter.unusedSimpArgs false

section
variable {P : Program} {ops : Array Oper} {Q : Exit → Act → World → Prop}
theorem count_set {l : Array Bool} {i : Nat} (h : l.getD i true = false) : i < l.size ∧ (l.setIfInBounds i true).toList.count false + 1 = l.toList.count false := by
  have hi : i < l.size := by
    by_cases hi : i < l.size
    · exact hi
    · simp [hi] at h
  refine ⟨hi, ?_⟩
  have hg : l[i] = false := by simpa [hi] using h
  rw [Array.toList_setIfInBounds, List.count_set (by simpa using hi)]
  have hp : 0 < l.toList.count false := List.count_pos_iff.2 (by rw [← hg]; simp)
  have hg2 : (l.toList[i]'(by simpa using hi)) = false := by simpa using hg
  have e1 : (if ((false : Bool) == false) = true then (1 : Nat) else 0) = 1 := rfl
  have e2 : (if ((true : Bool) == false) = true then (1 : Nat) else 0) = 0 := rfl
  rw [hg2, e1, e2]
  omega
/-- Operations that come up in any order, by what each of them leaves. -/
theorem any_inv (I : Array Bool → Act → World → Prop)
    (hstep : ∀ l a w i, I l a w → i ∈ Region.ready .any ops l → wpOp P ops Q i (fun a' w' => I (l.setIfInBounds i true) a' w' ∨ (Region.ready .any ops (l.setIfInBounds i true) = [] ∧ Q .normal a' w')) a w)
    (hne : ∀ l a w, I l a w → Region.ready .any ops l ≠ []) :
    ∀ (f : Nat) (l : Array Bool) (a : Act) (w : World), l.toList.count false = f → I l a w → wpAnyLast P .any ops Q (fun _ => True) [] f l a w := by
  intro f
  induction f with
  | zero =>
    intro l a w hl hI
    exfalso
    refine hne l a w hI (List.eq_nil_iff_forall_not_mem.2 fun i hi => ?_)
    have := (count_set (mem_ready.1 hi).1).2
    omega
  | succ f ih =>
    intro l a w hl hI
    refine ⟨fun h => absurd h (hne l a w hI), fun i hi => wpOp_mono (fun a' w' h => ⟨fun _ _ => trivial, ?_⟩) (hstep l a w i hI hi)⟩
    have hc := (count_set (mem_ready.1 hi).1).2
    rcases h with h | ⟨h1, h2⟩
    · exact ih _ _ _ (by omega) h
    · exact wpAnyLast_done h1 h2 f
end
abbrev nA (g : Nat) (A : Option Addr) (n c : Nat) (v5 v10 v12 v13 v14 v15 v16 v17 : Value) : Act := { tmps := #[.slice A n c, undef, .pointer (some ⟨g, 0, none⟩), .int .i64 0, .int .i64 n, v5, .slice A n c, .int .i64 n, .slice A n c, .int .i64 n, v10, .int .i64 n, v12, v13, v14, v15, v16, v17, undef, undef, undef, undef, undef], defers := [] }
abbrev z6 : Array Value := #[.slice none 0 0, .slice none 0 0, .slice none 0 0, .slice none 0 0, .slice none 0 0, .slice none 0 0]
structure NewI (w1 : World) (A : Option Addr) (n c : Nat) (b2 b4 b5 b6 b7 b8 b9 b10 : Bool) (v5 v10 v12 v13 v14 v15 v16 v17 : Value) (W : World) : Prop where
  bel : Below w1.heap.size w1 W
  f2 : b2 = true → RowI W w1.heap.size v10 (List.replicate n 0)
  f4 : b4 = true → RowI W w1.heap.size v12 (List.replicate n 0)
  f5 : b5 = true → ∃ g, v13 = .slice (some ⟨g, 0, none⟩) 1 1 ∧ W.cell? ⟨g, 0, none⟩ = some (.int .i64 (-1))
  f6 : b6 = true → RowI W w1.heap.size v14 [-1, -1, -1, -1]
  f7 : b7 = true → RowI W w1.heap.size v15 [0, 0, 0, 0]
  f8 : b8 = true → W.ownsRow w1.heap.size 23 1 v16 4 [.slice none 0 0, .slice none 0 0, .slice none 0 0, .slice none 0 0]
  f9 : b9 = true → v17 = .agg #[.slice A n c, v10, v12, v14, v15, v16] ∧ b2 = true ∧ b4 = true ∧ b6 = true ∧ b7 = true ∧ b8 = true
  f10 : b10 = true → ∃ g, w1.heap.size ≤ g ∧ v5 = .pointer (some ⟨g, 0, none⟩) ∧ W.heap[g]? = some (.cells z6 26 (0, 0))
theorem NewI.up {w1 : World} {A : Option Addr} {n c : Nat} {b2 b4 b5 b6 b7 b8 b9 b10 : Bool} {v5 v10 v12 v13 v14 v15 v16 v17 : Value} {W W' : World} (h : NewI w1 A n c b2 b4 b5 b6 b7 b8 b9 b10 v5 v10 v12 v13 v14 v15 v16 v17 W) (hb : Below W.heap.size W W') : NewI w1 A n c b2 b4 b5 b6 b7 b8 b9 b10 v5 v10 v12 v13 v14 v15 v16 v17 W' :=
  ⟨h.bel.trans (hb.mono h.bel.size), fun x => below_row (h.f2 x) hb, fun x => below_row (h.f4 x) hb, fun x => by obtain ⟨g, h1, h2⟩ := h.f5 x; exact ⟨g, h1, pw_cell_below hb h2⟩, fun x => below_row (h.f6 x) hb, fun x => below_row (h.f7 x) hb, fun x => below_row (h.f8 x) hb, h.f9, fun x => by obtain ⟨g, h1, h2, h3⟩ := h.f10 x; exact ⟨g, h1, h2, blk_below h3 hb⟩⟩
theorem made_row (W : World) (base n : Nat) (hb : base ≤ W.heap.size) (hn : n ≤ 100) : RowI (W.alloc (.cells (madeCells #[.int .i64 0] n) 3)) base (.slice (some ⟨W.heap.size, 0, none⟩) n n) (List.replicate n 0) := by
  have e : (madeCells #[Value.int .i64 0] n).toList = nums .i64 (List.replicate n 0) := by rw [toList_madeCells_one]; simp [nums]
  refine ⟨by rw [List.length_replicate, nums_length, List.length_replicate]; omega, .inr ⟨W.heap.size, n, madeCells #[.int .i64 0] n, by rw [List.length_replicate], hb, heap_alloc_new W _, by rw [List.length_replicate]; exact Nat.le_refl _, Nat.le_trans hn (by decide), by rw [size_madeCells]; omega, ?_⟩⟩
  rw [e, List.take_of_length_le (by rw [nums_length, List.length_replicate]; omega)]
theorem made_chans (W : World) (base : Nat) (hb : base ≤ W.heap.size) : (W.alloc (.cells (madeCells #[.slice none 0 0] 4) 23)).ownsRow base 23 1 (.slice (some ⟨W.heap.size, 0, none⟩) 4 4) 4 [.slice none 0 0, .slice none 0 0, .slice none 0 0, .slice none 0 0] := by
  have e : (madeCells #[Value.slice none 0 0] 4).toList = [.slice none 0 0, .slice none 0 0, .slice none 0 0, .slice none 0 0] := by rw [toList_madeCells_one]; rfl
  refine ⟨rfl, .inr ⟨W.heap.size, 4, madeCells #[.slice none 0 0] 4, rfl, hb, heap_alloc_new W _, Nat.le_refl _, by decide, by rw [size_madeCells], ?_⟩⟩
  rw [e]
  rfl
/-- A system that is made: its rows are the call's own. -/
structure NewR (w : World) (base : Nat) (W : World) (l : List (List S44)) (p : Ad) : Prop where
  bel : Below w.heap.size w W
  r1 : RowI W base (.slice p.a1 l.length p.c1) (List.replicate l.length 0)
  r2 : RowI W base (.slice p.a2 l.length p.c2) (List.replicate l.length 0)
  r3 : RowI W base (.slice p.a3 4 p.c3) [-1, -1, -1, -1]
  r4 : RowI W base (.slice p.a4 4 p.c4) [0, 0, 0, 0]
  r5 : W.ownsRow base 23 1 (.slice p.a5 4 p.c5) 4 [.slice none 0 0, .slice none 0 0, .slice none 0 0, .slice none 0 0]
theorem NewR.below {w W W' : World} {base : Nat} {l : List (List S44)} {p : Ad} (h : NewR w base W l p) (hb : Below W.heap.size W W') : NewR w base W' l p :=
  ⟨h.bel.trans (hb.mono h.bel.size), below_row h.r1 hb, below_row h.r2 hb, below_row h.r3 hb, below_row h.r4 hb, below_row h.r5 hb⟩
theorem rowI_sl {W : World} {base n c : Nat} {A : Option Addr} {xs : List Int} (hn : xs.length = n) (h : RowI W base (.slice A n c) xs) : RowI W base (.slice A xs.length c) xs := by subst hn; exact h
theorem rowI_sixN {W : World} {base g n c : Nat} {A : Option Addr} {xs : List Int} {v0 v1 v2 v3 v4 v5 : Value} (hn : xs.length = n) (h : RowI W base (.slice A n c) xs) (hg : g < base) : RowI ((((((W.setCell ⟨g, 0, none⟩ v0).setCell ⟨g, 1, none⟩ v1).setCell ⟨g, 2, none⟩ v2).setCell ⟨g, 3, none⟩ v3).setCell ⟨g, 4, none⟩ v4).setCell ⟨g, 5, none⟩ v5) base (.slice A n c) xs := by subst hn; exact row_six h hg
theorem NewR.six {w W : World} {base g : Nat} {l : List (List S44)} {p : Ad} (h : NewR w base W l p) (hg : g < base) (hw : w.heap.size ≤ g) (v0 v1 v2 v3 v4 v5 : Value) : NewR w base ((((((W.setCell ⟨g, 0, none⟩ v0).setCell ⟨g, 1, none⟩ v1).setCell ⟨g, 2, none⟩ v2).setCell ⟨g, 3, none⟩ v3).setCell ⟨g, 4, none⟩ v4).setCell ⟨g, 5, none⟩ v5) l p :=
  ⟨below_six h.bel hw, rowI_sixN List.length_replicate h.r1 hg, rowI_sixN List.length_replicate h.r2 hg, rowI_sixN rfl h.r3 hg, rowI_sixN rfl h.r4 hg, row_six h.r5 hg⟩
theorem ob_ne {W : World} {base n m c g : Nat} {e : TypeId} {size : Nat} {A : Option Addr} {xs : List Value} {cs : Array Value} (h : W.ownsRow base e size (.slice A n c) m xs) (hg : W.heap[g]? = some (.cells cs 26 (0, 0))) (he : e ≠ 26) : ob A ≠ some g := by
  intro ha
  rcases h.2 with ⟨h1, _⟩ | ⟨g', cap, cur, h1, h2, h3, _⟩
  · injection h1 with h1
    subst h1
    cases ha
  · injection h1 with h1
    subst h1
    injection ha with ha
    have e' : g' = g := ha
    subst e'
    rw [h3] at hg
    injection hg with hg
    injection hg with _ hg
    exact he hg
theorem far_six {W : World} {base n c g : Nat} {e : TypeId} {size : Nat} {A : Option Addr} {xs : List Value} {v0 v1 v2 v3 v4 v5 : Value} (h : W.ownsRow base e size (.slice A n c) n xs) (hp : ob A ≠ some g) : ((((((W.setCell ⟨g, 0, none⟩ v0).setCell ⟨g, 1, none⟩ v1).setCell ⟨g, 2, none⟩ v2).setCell ⟨g, 3, none⟩ v3).setCell ⟨g, 4, none⟩ v4).setCell ⟨g, 5, none⟩ v5).ownsRow base e size (.slice A n c) n xs :=
  own_far (own_far (own_far (own_far (own_far (own_far h hp _) hp _) hp _) hp _) hp _) hp _
theorem far_sixI {W : World} {base n c g : Nat} {A : Option Addr} {xs : List Int} {v0 v1 v2 v3 v4 v5 : Value} (hn : xs.length = n) (h : RowI W base (.slice A n c) xs) (hp : ob A ≠ some g) : RowI ((((((W.setCell ⟨g, 0, none⟩ v0).setCell ⟨g, 1, none⟩ v1).setCell ⟨g, 2, none⟩ v2).setCell ⟨g, 3, none⟩ v3).setCell ⟨g, 4, none⟩ v4).setCell ⟨g, 5, none⟩ v5) base (.slice A n c) xs := by subst hn; exact far_six h hp
theorem NewR.sys {P : Nat → Bool} {w W : World} {base : Nat} {l : List (List S44)} {p : Ad} (h : NewR w base W l p) (hC : CT (hid P w) p.a0 l) (hc : l.length ≤ p.c0) (hP : ∀ k, P k = true → k < base) : SysC (hid P W) (newS l) p := by
  have hi : Inner (hid P W) [.slice none 0 0, .slice none 0 0, .slice none 0 0, .slice none 0 0] (newS l).ch := fun j x u hx hu => by
    have hx2 : x = [] := by
      have := List.mem_of_getElem? hx
      simpa [newS] using this
    have hu2 : u = .slice none 0 0 := by
      have := List.mem_of_getElem? hu
      simpa using this
    subst hx2 hu2
    exact ⟨none, 0, rfl, Nat.le_refl _, C_nil _ _⟩
  obtain ⟨h5, h6⟩ := ownR_C (xs := (newS l).ch) (hid_row h.r5 hP) hi (Up.refl _)
  have hu : Up (hid P w) (hid P W) := up_hid h.bel (fun _ _ h => h)
  have rI : ∀ {A : Option Addr} {n c : Nat} {xs : List Int}, xs.length = n → RowI W base (.slice A n c) xs → CI (hid P W) A xs ∧ xs.length ≤ c := fun {A n c xs} hn hr => by
    subst hn
    exact rowI_CI (w := hid P W) (b := base) (hid_row hr hP)
  obtain ⟨a1, a2⟩ := rI List.length_replicate h.r1
  obtain ⟨a3, a4⟩ := rI List.length_replicate h.r2
  obtain ⟨a5, a6⟩ := rI rfl h.r3
  obtain ⟨a7, a8⟩ := rI rfl h.r4
  exact ⟨CT_up hC hu, hc, a1, a2, a3, a4, a5, a6, a7, a8, h5, h6⟩
theorem new_bd {l : List (List S44)} (hb1 : l.length ≤ 10) (hb2 : ∀ t : List S44, t ∈ l → t.length ≤ 18) : Bd (newS l) := by
  refine ⟨?_, ?_, ?_, ?_, ?_, ?_, fun t ht => ?_, fun t ht => ?_⟩
  · show l.length ≤ 100; omega
  · show (List.replicate l.length (0 : Int)).length ≤ 100; rw [List.length_replicate]; omega
  · show (List.replicate l.length (0 : Int)).length ≤ 100; rw [List.length_replicate]; omega
  · show (4 : Nat) ≤ 100; decide
  · show (4 : Nat) ≤ 100; decide
  · show (4 : Nat) ≤ 100; decide
  · have := hb2 t ht; omega
  · have : t = [] := by simpa [newS] using ht
    subst this
    decide
set_option maxRecDepth 100000 in
theorem build26 (A B1 B2 B3 B4 B5 : Option Addr) (n c d1 d2 d3 d4 d5 m1 m2 m3 m4 m5 : Nat) (W : World) : (Instr.build 26 #[(0, .slice A n c), (1, .slice B1 m1 d1), (2, .slice B2 m2 d2), (3, .slice B3 m3 d3), (4, .slice B4 m4 d4), (5, .slice B5 m5 d5)]).run Try.prog W = .ok (.agg #[.slice A n c, .slice B1 m1 d1, .slice B2 m2 d2, .slice B3 m3 d3, .slice B4 m4 d4, .slice B5 m5 d5]) W := by
  go_simp
def xNew (l : List (List S44)) : Syst × Int := if rightB (newS l) = true then (newS l, 0) else (Syst.none, 1)
set_option maxRecDepth 100000 in
set_option maxHeartbeats 4000000 in
theorem xNew_calls (P : Nat → Bool) (A : Option Addr) (c : Nat) (l : List (List S44)) (w : World) (hC0 : CT (hid P w) A l) (hc : l.length ≤ c) (hP : ∀ k, P k = true → k < w.heap.size) (hb1 : l.length ≤ 10) (hb2 : ∀ t : List S44, t ∈ l → t.length ≤ 18) : Calls Try.prog 15 #[.slice A l.length c] w (XStepP P (xNew l) w) := by
  have qkn : ∀ W : World, (Instr.makeSlice 23 (.int .i64 (l.length : Int)) (.int .i64 (l.length : Int))).run Try.prog W = .ok (.slice (some ⟨W.heap.size, 0, none⟩) l.length l.length) (W.alloc (.cells (madeCells #[.int .i64 0] l.length) 3)) := fun W => run_make_row' (P := Try.prog) 23 3 (.int .i64 0) 8 Try.underlying23 info3 rfl .i64 .i64 l.length (by omega) (by omega) W
  have qk4 : ∀ W : World, (Instr.makeSlice 23 (.int .i64 4) (.int .i64 4)).run Try.prog W = .ok (.slice (some ⟨W.heap.size, 0, none⟩) 4 4) (W.alloc (.cells (madeCells #[.int .i64 0] 4) 3)) := fun W => run_make_row' (P := Try.prog) 23 3 (.int .i64 0) 8 Try.underlying23 info3 rfl .i64 .i64 4 (by decide) (by decide) W
  have qkc : ∀ W : World, (Instr.makeSlice 24 (.int .i64 4) (.int .i64 4)).run Try.prog W = .ok (.slice (some ⟨W.heap.size, 0, none⟩) 4 4) (W.alloc (.cells (madeCells #[.slice none 0 0] 4) 23)) := fun W => run_make_row' (P := Try.prog) 24 23 (.slice none 0 0) 24 Try.underlying24 info23 rfl .i64 .i64 4 (by decide) (by decide) W
  have HL := Aside0.mk hb1
  have HL2 := Aside0.mk hb2
  have HC0 := Aside0.mk hC0
  have HC := Aside0.mk hc
  have HP := Aside0.mk hP
  clear hC0 hc hP hb1 hb2
  go_enter Try.func15, Try.ntmps15
  go_wp2
  refine start_ (n := 12) (S := fun _ => True) (ds := []) #[false, false, false, false, false, false, false, false, false, false, false, false] (by kernel_rfl) rfl rfl trivial (fun _ => ?_)
  have HZ0 : Aside0 ((w.alloc (.cells z6 26)).drew.heap[w.heap.size]? = some (.cells z6 26 (0, 0))) := ⟨blk_new w _⟩
  have HB0 := Aside0.mk (below_drew ((Below.refl w.heap.size w).alloc (Nat.le_refl _) (.cells z6 26)))
  generalize (w.alloc (.cells z6 26)).drew = w1 at *
  have HW1 : Aside0 (w.heap.size < w1.heap.size) := ⟨blk_lt HZ0.out⟩
  refine pure_ (i := 0) (N := some 8) (v := ?_) (a' := ?_) #[true, false, false, false, false, false, false, false, false, false, false, false] rfl rfl (by kernel_rfl) (fun _ _ _ h => h) (Or.inl ⟨by rfl, ?_⟩) ?_ ?_
  rotate_left
  · intro w'
    go_simp
    with_reducible rfl
  rotate_left
  · simp only [Act.put, List.setIfInBounds_toArray, List.set_cons_zero, List.set_cons_succ, i64_w, i32_w]
    rfl
  refine pure_ (i := 1) (N := some 9) (v := ?_) (a' := ?_) #[true, true, false, false, false, false, false, false, false, false, false, false] rfl rfl (by kernel_rfl) (fun _ _ _ h => h) (Or.inl ⟨by rfl, ?_⟩) ?_ ?_
  rotate_left
  · intro w'
    go_simp
    with_reducible rfl
  rotate_left
  · simp only [Act.put, List.setIfInBounds_toArray, List.set_cons_zero, List.set_cons_succ, i64_w, i32_w]
    rfl
  refine pure_ (i := 3) (N := some 11) (v := ?_) (a' := ?_) #[true, true, false, true, false, false, false, false, false, false, false, false] rfl rfl (by kernel_rfl) (fun _ _ _ h => h) (Or.inl ⟨by rfl, ?_⟩) ?_ ?_
  rotate_left
  · intro w'
    go_simp
    with_reducible rfl
  rotate_left
  · simp only [Act.put, List.setIfInBounds_toArray, List.set_cons_zero, List.set_cons_succ, i64_w, i32_w]
    rfl
  refine any_inv (fun ls a W => ∃ (b2 b4 b5 b6 b7 b8 b9 b10 : Bool) (v5 v10 v12 v13 v14 v15 v16 v17 : Value), ls = #[true, true, b2, true, b4, b5, b6, b7, b8, b9, b10, false] ∧ a = nA w.heap.size A l.length c v5 v10 v12 v13 v14 v15 v16 v17 ∧ NewI w1 A l.length c b2 b4 b5 b6 b7 b8 b9 b10 v5 v10 v12 v13 v14 v15 v16 v17 W) ?_ ?_ 9 _ _ _ rfl ?_
  · rintro ls a W i ⟨b2, b4, b5, b6, b7, b8, b9, b10, v5, v10, v12, v13, v14, v15, v16, v17, rfl, rfl, hI⟩ hi
    obtain ⟨hun, o, ho, hall⟩ := mem_ready.1 hi
    have hi12 : i < 12 := (count_set hun).1
    have HI := Aside0.mk hI
    clear hI hi
    match i, hi12 with
    | 0, _ => cases hun
    | 1, _ => cases hun
    | 2, _ =>
      have hb : b2 = false := hun
      subst hb
      clear ho hall
      as_aux_lemma =>
      refine wpOp_step rfl (fun K hK => ?_)
      refine value_ (v := (.slice (some ⟨W.heap.size, 0, none⟩) l.length l.length)) (w1 := W.alloc (.cells (madeCells #[.int .i64 0] l.length) 3)) (by rfl) rfl ?_ ?_
      · have qk := qkn W; go_simp
      · have hb2 := (Below.refl W.heap.size W).alloc (Nat.le_refl _) ((.cells (madeCells #[.int .i64 0] l.length) 3))
        have hI2 := HI.out.up hb2
        refine hK _ _ (.inl ⟨true, b4, b5, b6, b7, b8, b9, b10, v5, (.slice (some ⟨W.heap.size, 0, none⟩) l.length l.length), v12, v13, v14, v15, v16, v17, rfl, rfl, { hI2 with f2 := fun _ => made_row W _ _ HI.out.bel.size (Nat.le_trans HL.out (by decide)), f9 := fun h9 => by have := hI2.f9 h9; simp at this }⟩)
    | 3, _ => cases hun
    | 4, _ =>
      have hb : b4 = false := hun
      subst hb
      clear ho hall
      as_aux_lemma =>
      refine wpOp_step rfl (fun K hK => ?_)
      refine value_ (v := (.slice (some ⟨W.heap.size, 0, none⟩) l.length l.length)) (w1 := W.alloc (.cells (madeCells #[.int .i64 0] l.length) 3)) (by rfl) rfl ?_ ?_
      · have qk := qkn W; go_simp
      · have hb2 := (Below.refl W.heap.size W).alloc (Nat.le_refl _) ((.cells (madeCells #[.int .i64 0] l.length) 3))
        have hI2 := HI.out.up hb2
        refine hK _ _ (.inl ⟨b2, true, b5, b6, b7, b8, b9, b10, v5, v10, (.slice (some ⟨W.heap.size, 0, none⟩) l.length l.length), v13, v14, v15, v16, v17, rfl, rfl, { hI2 with f4 := fun _ => made_row W _ _ HI.out.bel.size (Nat.le_trans HL.out (by decide)), f9 := fun h9 => by have := hI2.f9 h9; simp at this }⟩)
    | 5, _ =>
      have hb : b5 = false := hun
      subst hb
      clear ho hall
      as_aux_lemma =>
      refine wpOp_step rfl (fun K hK => ?_)
      refine value_ (v := (.slice (some ⟨W.heap.size, 0, none⟩) 1 1)) (w1 := W.alloc (.cells #[.int .i64 (-1)] 3)) (by rfl) rfl ?_ ?_
      · go_simp
      · have hb2 := (Below.refl W.heap.size W).alloc (Nat.le_refl _) ((.cells #[.int .i64 (-1)] 3))
        have hI2 := HI.out.up hb2
        refine hK _ _ (.inl ⟨b2, b4, true, b6, b7, b8, b9, b10, v5, v10, v12, (.slice (some ⟨W.heap.size, 0, none⟩) 1 1), v14, v15, v16, v17, rfl, rfl, { hI2 with f5 := fun _ => ⟨_, rfl, blk_cell (blk_new W _) 0⟩ }⟩)
    | 6, _ =>
      have hb : b6 = false := hun
      subst hb
      have hb5 : b5 = true := by
        cases ho
        exact hall ⟨5, .data⟩ (by simp) rfl
      subst hb5
      clear ho hall
      obtain ⟨g, rfl, hc5⟩ := HI.out.f5 rfl
      as_aux_lemma =>
      refine wpOp_step rfl (fun K hK => ?_)
      refine goes_ Try.func37 (by kernel_rfl) rfl #[.slice (some ⟨g, 0, none⟩) 1 1, .int .i64 4] (by rfl) rfl rfl (by (try simp only [List.map_toArray, List.map_cons, List.map_nil]); first | done | rfl) ?_
      refine (repeat_calls _ W hc5).mono ?_
      rintro e W' ⟨v, rfl, hr, hb2⟩
      refine ⟨_, rfl, ?_⟩
      have hI2 := HI.out.up hb2
      refine hK _ _ (.inl ⟨b2, b4, true, true, b7, b8, b9, b10, v5, v10, v12, (.slice (some ⟨g, 0, none⟩) 1 1), v, v15, v16, v17, rfl, rfl, { hI2 with f6 := fun _ => own_weaken hr HI.out.bel.size, f9 := fun h9 => by have := hI2.f9 h9; simp at this }⟩)
    | 7, _ =>
      have hb : b7 = false := hun
      subst hb
      clear ho hall
      as_aux_lemma =>
      refine wpOp_step rfl (fun K hK => ?_)
      refine value_ (v := (.slice (some ⟨W.heap.size, 0, none⟩) 4 4)) (w1 := W.alloc (.cells (madeCells #[.int .i64 0] 4) 3)) (by rfl) rfl ?_ ?_
      · have qk := qk4 W; go_simp
      · have hb2 := (Below.refl W.heap.size W).alloc (Nat.le_refl _) ((.cells (madeCells #[.int .i64 0] 4) 3))
        have hI2 := HI.out.up hb2
        refine hK _ _ (.inl ⟨b2, b4, b5, b6, true, b8, b9, b10, v5, v10, v12, v13, v14, (.slice (some ⟨W.heap.size, 0, none⟩) 4 4), v16, v17, rfl, rfl, { hI2 with f7 := fun _ => made_row W _ 4 HI.out.bel.size (by decide), f9 := fun h9 => by have := hI2.f9 h9; simp at this }⟩)
    | 8, _ =>
      have hb : b8 = false := hun
      subst hb
      clear ho hall
      as_aux_lemma =>
      refine wpOp_step rfl (fun K hK => ?_)
      refine value_ (v := (.slice (some ⟨W.heap.size, 0, none⟩) 4 4)) (w1 := W.alloc (.cells (madeCells #[.slice none 0 0] 4) 23)) (by rfl) rfl ?_ ?_
      · have qk := qkc W; go_simp
      · have hb2 := (Below.refl W.heap.size W).alloc (Nat.le_refl _) ((.cells (madeCells #[.slice none 0 0] 4) 23))
        have hI2 := HI.out.up hb2
        refine hK _ _ (.inl ⟨b2, b4, b5, b6, b7, true, b9, b10, v5, v10, v12, v13, v14, v15, (.slice (some ⟨W.heap.size, 0, none⟩) 4 4), v17, rfl, rfl, { hI2 with f8 := fun _ => made_chans W _ HI.out.bel.size, f9 := fun h9 => by have := hI2.f9 h9; simp at this }⟩)
    | 9, _ =>
      have hb : b9 = false := hun
      subst hb
      have hbs : b2 = true ∧ b4 = true ∧ b6 = true ∧ b7 = true ∧ b8 = true := by
        cases ho
        exact ⟨hall ⟨2, .data⟩ (by simp) rfl, hall ⟨4, .data⟩ (by simp) rfl, hall ⟨6, .data⟩ (by simp) rfl, hall ⟨7, .data⟩ (by simp) rfl, hall ⟨8, .data⟩ (by simp) rfl⟩
      obtain ⟨rfl, rfl, rfl, rfl, rfl⟩ := hbs
      clear ho hall
      obtain ⟨B1, d1, rfl⟩ := row_slice (HI.out.f2 rfl)
      obtain ⟨B2, d2, rfl⟩ := row_slice (HI.out.f4 rfl)
      obtain ⟨B3, d3, rfl⟩ := row_slice (HI.out.f6 rfl)
      obtain ⟨B4, d4, rfl⟩ := row_slice (HI.out.f7 rfl)
      obtain ⟨B5, d5, rfl⟩ := row_slice (HI.out.f8 rfl)
      have e1 : (List.replicate l.length (0 : Int)).length = l.length := List.length_replicate
      have e3 : ([-1, -1, -1, -1] : List Int).length = 4 := rfl
      have e4 : ([0, 0, 0, 0] : List Int).length = 4 := rfl
      rw [e1, e3, e4] at HI
      rw [e1, e3, e4]
      clear e1 e3 e4
      generalize l.length = n at *
      as_aux_lemma =>
      refine wpOp_step rfl (fun K hK => ?_)
      refine value_ (v := .agg #[.slice A n c, .slice B1 n d1, .slice B2 n d2, .slice B3 4 d3, .slice B4 4 d4, .slice B5 4 d5]) (w1 := W) (by rfl) rfl ?_ ?_
      · have qb := build26 A B1 B2 B3 B4 B5 n c d1 d2 d3 d4 d5 n n 4 4 4 W
        simp [execOp]
        exact (congrArg (fun r => Result.andThen r _) qb).trans rfl
      · refine hK _ _ (.inl ⟨true, true, b5, true, true, true, true, b10, v5, .slice B1 n d1, .slice B2 n d2, v13, .slice B3 4 d3, .slice B4 4 d4, .slice B5 4 d5, .agg #[.slice A n c, .slice B1 n d1, .slice B2 n d2, .slice B3 4 d3, .slice B4 4 d4, .slice B5 4 d5], rfl, rfl, { HI.out with f9 := fun _ => ⟨rfl, rfl, rfl, rfl, rfl, rfl⟩ }⟩)
    | 10, _ =>
      have hb : b10 = false := hun
      subst hb
      clear ho hall
      as_aux_lemma =>
      refine wpOp_step rfl (fun K hK => ?_)
      refine value_ (v := (.pointer (some ⟨W.heap.size, 0, none⟩))) (w1 := W.alloc (.cells z6 26)) (by rfl) rfl ?_ ?_
      · go_simp
      · have hb2 := (Below.refl W.heap.size W).alloc (Nat.le_refl _) ((.cells z6 26))
        have hI2 := HI.out.up hb2
        refine hK _ _ (.inl ⟨b2, b4, b5, b6, b7, b8, b9, true, (.pointer (some ⟨W.heap.size, 0, none⟩)), v10, v12, v13, v14, v15, v16, v17, rfl, rfl, { hI2 with f10 := fun _ => ⟨_, HI.out.bel.size, rfl, blk_new W _⟩ }⟩)
    | 11, _ =>
      have hbs : b2 = true ∧ b4 = true ∧ b6 = true ∧ b7 = true ∧ b8 = true ∧ b9 = true ∧ b10 = true ∧ b5 = true := by
        cases ho
        exact ⟨hall ⟨2, .phase⟩ (by simp) rfl, hall ⟨4, .phase⟩ (by simp) rfl, hall ⟨6, .phase⟩ (by simp) rfl, hall ⟨7, .phase⟩ (by simp) rfl, hall ⟨8, .phase⟩ (by simp) rfl, hall ⟨9, .phase⟩ (by simp) rfl, hall ⟨10, .phase⟩ (by simp) rfl, hall ⟨5, .phase⟩ (by simp) rfl⟩
      obtain ⟨rfl, rfl, rfl, rfl, rfl, rfl, rfl, rfl⟩ := hbs
      clear ho hall hun
      obtain ⟨rfl, -⟩ := HI.out.f9 rfl
      obtain ⟨g, hg, rfl, hblk⟩ := HI.out.f10 rfl
      obtain ⟨B1, d1, rfl⟩ := row_slice (HI.out.f2 rfl)
      obtain ⟨B2, d2, rfl⟩ := row_slice (HI.out.f4 rfl)
      obtain ⟨B3, d3, rfl⟩ := row_slice (HI.out.f6 rfl)
      obtain ⟨B4, d4, rfl⟩ := row_slice (HI.out.f7 rfl)
      obtain ⟨B5, d5, rfl⟩ := row_slice (HI.out.f8 rfl)
      have e1 : (List.replicate l.length (0 : Int)).length = l.length := List.length_replicate
      have e3 : ([-1, -1, -1, -1] : List Int).length = 4 := rfl
      have e4 : ([0, 0, 0, 0] : List Int).length = 4 := rfl
      rw [e1, e3, e4] at HI
      rw [e1, e3, e4]
      clear e3 e4
      have HNR : Aside0 (NewR w w1.heap.size ((((((W.setCell ⟨g, 0, none⟩ (.slice A l.length c)).setCell ⟨g, 1, none⟩ (.slice B1 l.length d1)).setCell ⟨g, 2, none⟩ (.slice B2 l.length d2)).setCell ⟨g, 3, none⟩ (.slice B3 4 d3)).setCell ⟨g, 4, none⟩ (.slice B4 4 d4)).setCell ⟨g, 5, none⟩ (.slice B5 4 d5)) l ⟨A, c, B1, d1, B2, d2, B3, d3, B4, d4, B5, d5⟩) := ⟨⟨below_six (HB0.out.trans (HI.out.bel.mono HB0.out.size)) (Nat.le_trans (Nat.le_of_lt HW1.out) hg), far_sixI List.length_replicate (HI.out.f2 rfl) (ob_ne (HI.out.f2 rfl) hblk (by decide)), far_sixI List.length_replicate (HI.out.f4 rfl) (ob_ne (HI.out.f4 rfl) hblk (by decide)), far_sixI rfl (HI.out.f6 rfl) (ob_ne (HI.out.f6 rfl) hblk (by decide)), far_sixI rfl (HI.out.f7 rfl) (ob_ne (HI.out.f7 rfl) hblk (by decide)), far_six (HI.out.f8 rfl) (ob_ne (HI.out.f8 rfl) hblk (by decide))⟩⟩
      have HG := Aside0.mk (six_put (.slice A l.length c) (.slice B1 l.length d1) (.slice B2 l.length d2) (.slice B3 4 d3) (.slice B4 4 d4) (.slice B5 4 d5) hblk)
      have HZ := Aside0.mk (blk_six_far (g := g) (v0 := .slice A l.length c) (v1 := .slice B1 l.length d1) (v2 := .slice B2 l.length d2) (v3 := .slice B3 4 d3) (v4 := .slice B4 4 d4) (v5 := .slice B5 4 d5) (blk_low HI.out.bel HW1.out HZ0.out) (Nat.ne_of_lt (Nat.lt_of_lt_of_le HW1.out hg)))
      refine wpOp_step rfl (fun K hK => ?_)
      obtain ⟨q0, q1, q2, q3, q4, q5⟩ := six_cells hblk
      obtain ⟨x0, x1, x2, x3, x4, x5⟩ := six_frozen hblk
      refine skip_ (w1 := ?_) (by rfl) rfl ?_ ?_
      rotate_left
      · go_simp
        rfl
      clear q0 q1 q2 q3 q4 q5 x0 x1 x2 x3 x4 x5 hblk HI
      refine hK _ _ (.inr ⟨by kernel_rfl, ?_⟩)
      clear hK K
      generalize ((((((W.setCell ⟨g, 0, none⟩ (.slice A l.length c)).setCell ⟨g, 1, none⟩ (.slice B1 l.length d1)).setCell ⟨g, 2, none⟩ (.slice B2 l.length d2)).setCell ⟨g, 3, none⟩ (.slice B3 4 d3)).setCell ⟨g, 4, none⟩ (.slice B4 4 d4)).setCell ⟨g, 5, none⟩ (.slice B5 4 d5)) = W1 at *
      obtain ⟨q0, q1, q2, q3, q4, q5⟩ := six_cells HG.out
      have HR : Aside0 (Calls Try.prog 20 #[.agg #[.slice A l.length c, .slice B1 l.length d1, .slice B2 l.length d2, .slice B3 4 d3, .slice B4 4 d4, .slice B5 4 d5]] W1 (fun e w' => e = .returned (.bool (rightB (newS l))) ∧ Below W1.heap.size W1 w')) := ⟨by
        have h1 := right_calls (newS l) ⟨A, c, B1, d1, B2, d2, B3, d3, B4, d4, B5, d5⟩ W1 ((HNR.out.sys HC0.out HC.out (fun k hk => Nat.lt_trans (HP.out k hk) HW1.out)).up (hid_up P W1)) (new_bd HL.out HL2.out)
        unfold sysA at h1
        dsimp only [newS] at h1
        rw [e1] at h1
        exact h1⟩
      clear e1
      cases hr : rightB (newS l) with
      | false =>
        have HX : Aside0 (xNew l = (Syst.none, 1)) := ⟨by unfold xNew; rw [hr]; rfl⟩
        rw [hr] at HR
        clear hr
        as_aux_lemma =>
        go_wp2_with (go_at_call 20; refine HR.out.mono ?_; rintro e w3 ⟨rfl, hb⟩; replace HZ := Aside0.mk (blk_below HZ.out hb); replace HNR := Aside0.mk (HNR.out.below hb); clear hb q0 q1 q2 q3 q4 q5; obtain ⟨z0, z1, z2, z3, z4, z5⟩ := six_cells HZ.out; obtain ⟨y0, y1, y2, y3, y4, y5⟩ := six_frozen HZ.out)
        refine bodyPost_ret (results_ct rfl _ _ w.heap.size 26 _ (0, 0) _ rfl (six_put _ _ _ _ _ _ HZ.out) Try.underlying26 rfl (by kernel_rfl)) rfl ?_
        rw [HX.out]
        exact ⟨Ad.none, rfl, SysC_none _, below_six HNR.out.bel (Nat.le_refl _)⟩
      | true =>
        have HX : Aside0 (xNew l = (newS l, 0)) := ⟨by unfold xNew; rw [hr]; rfl⟩
        have e2 : (newS l).at_.length = l.length := List.length_replicate
        have e3 : (newS l).su.length = l.length := List.length_replicate
        have HE : Aside0 (sysA (newS l) ⟨A, c, B1, d1, B2, d2, B3, d3, B4, d4, B5, d5⟩ = #[.slice A l.length c, .slice B1 l.length d1, .slice B2 l.length d2, .slice B3 4 d3, .slice B4 4 d4, .slice B5 4 d5]) := ⟨by unfold sysA; dsimp only; rw [e2, e3]; rfl⟩
        rw [hr] at HR
        clear hr e2 e3
        as_aux_lemma =>
        go_wp2_with (go_at_call 20; refine HR.out.mono ?_; rintro e w3 ⟨rfl, hb⟩; replace HZ := Aside0.mk (blk_below HZ.out hb); replace HG := Aside0.mk (blk_below HG.out hb); replace HNR := Aside0.mk (HNR.out.below hb); clear hb q0 q1 q2 q3 q4 q5; obtain ⟨q0, q1, q2, q3, q4, q5⟩ := six_cells HG.out; obtain ⟨z0, z1, z2, z3, z4, z5⟩ := six_cells HZ.out; obtain ⟨y0, y1, y2, y3, y4, y5⟩ := six_frozen HZ.out)
        refine bodyPost_ret (results_ct rfl _ _ w.heap.size 26 _ (0, 0) _ rfl (six_put _ _ _ _ _ _ HZ.out) Try.underlying26 rfl (by kernel_rfl)) rfl ?_
        rw [HX.out]
        have hn := HNR.out.six HW1.out (Nat.le_refl _) (.slice A l.length c) (.slice B1 l.length d1) (.slice B2 l.length d2) (.slice B3 4 d3) (.slice B4 4 d4) (.slice B5 4 d5)
        exact ⟨⟨A, c, B1, d1, B2, d2, B3, d3, B4, d4, B5, d5⟩, by dsimp only; rw [HE.out]; rfl, hn.sys HC0.out HC.out (fun k hk => Nat.lt_trans (HP.out k hk) HW1.out), hn.bel⟩
  · rintro ls a W ⟨b2, b4, b5, b6, b7, b8, b9, b10, v5, v10, v12, v13, v14, v15, v16, v17, rfl, rfl, hI⟩ hnil
    have t2 : b2 = true := by
      cases b2 with
      | true => rfl
      | false => exact absurd (hnil ▸ (mem_ready.2 ⟨rfl, _, rfl, by simp⟩ : 2 ∈ Region.ready .any _ _)) (by simp)
    have t4 : b4 = true := by
      cases b4 with
      | true => rfl
      | false => exact absurd (hnil ▸ (mem_ready.2 ⟨rfl, _, rfl, by simp⟩ : 4 ∈ Region.ready .any _ _)) (by simp)
    have t5 : b5 = true := by
      cases b5 with
      | true => rfl
      | false => exact absurd (hnil ▸ (mem_ready.2 ⟨rfl, _, rfl, by simp⟩ : 5 ∈ Region.ready .any _ _)) (by simp)
    subst t2 t4 t5
    have t6 : b6 = true := by
      cases b6 with
      | true => rfl
      | false => exact absurd (hnil ▸ (mem_ready.2 ⟨rfl, _, rfl, by simp⟩ : 6 ∈ Region.ready .any _ _)) (by simp)
    have t7 : b7 = true := by
      cases b7 with
      | true => rfl
      | false => exact absurd (hnil ▸ (mem_ready.2 ⟨rfl, _, rfl, by simp⟩ : 7 ∈ Region.ready .any _ _)) (by simp)
    have t8 : b8 = true := by
      cases b8 with
      | true => rfl
      | false => exact absurd (hnil ▸ (mem_ready.2 ⟨rfl, _, rfl, by simp⟩ : 8 ∈ Region.ready .any _ _)) (by simp)
    have t10 : b10 = true := by
      cases b10 with
      | true => rfl
      | false => exact absurd (hnil ▸ (mem_ready.2 ⟨rfl, _, rfl, by simp⟩ : 10 ∈ Region.ready .any _ _)) (by simp)
    subst t6 t7 t8 t10
    have t9 : b9 = true := by
      cases b9 with
      | true => rfl
      | false => exact absurd (hnil ▸ (mem_ready.2 ⟨rfl, _, rfl, by simp⟩ : 9 ∈ Region.ready .any _ _)) (by simp)
    subst t9
    exact absurd (hnil ▸ (mem_ready.2 ⟨rfl, _, rfl, by simp⟩ : 11 ∈ Region.ready .any _ _)) (by simp)
  · exact ⟨false, false, false, false, false, false, false, false, undef, undef, undef, undef, undef, undef, undef, undef, rfl, rfl, ⟨Below.refl _ _, fun h => (nomatch h), fun h => (nomatch h), fun h => (nomatch h), fun h => (nomatch h), fun h => (nomatch h), fun h => (nomatch h), fun h => (nomatch h), fun h => (nomatch h)⟩⟩
end Go.Proofs.Ythnimpbcfegmjaa.Own


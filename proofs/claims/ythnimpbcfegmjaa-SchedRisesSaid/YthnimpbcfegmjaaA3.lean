/-
  Merged texts of this seat: S17, S18, S19, Pl1.
-/
import Derived.Test.YthnimpbcfegmjaaS16
import Derived.Test.YthnimpbcfegmjaaPx7
import Derived.Deep.RegionLaw
import Derived.Laws.CopyOwn
import Derived.Test.YthnimpbcfegmjaaPx8
import Derived.Test.YthnimpbcfegmjaaPx9
/-
  slices.Repeat at ([-1], 4), walked by hand.
-/
namespace Go.Proofs.Ythnimpbcfegmjaa.Own
open Go.RowKit Go.Proofs.YthnimpbcfegmjaaW.PrintWords Go.Proofs.YthnimpbcfegmjaaW.PrintLast Go.Proofs.YthnimpbcfegmjaaW.PrintMore Go.Proofs.Ythnimpbcfegmjaa.P Go.Proofs.Ythnimpbcfegmjaa.Model
set_option linter.unusedVariables false
set_option linter.unusedSimpArgs false

def m1 : Value := .int .i64 (-1)
def o0 : Value := .int .i64 0
def repL (j : Nat) : List Value := if j = 1 then [m1, o0, o0, o0] else if j = 2 then [m1, m1, o0, o0] else [m1, m1, m1, m1]
theorem mul_four : bits_Mul.f 1 4 = some (0, 4) := by decide +kernel
theorem copy_row {W : World} {g k off : Nat} {L : List Value} (hb : W.heap[g]? = some (.cells L.toArray 3 (0, 0))) (j : Nat) (v : Value) (hj : (L.take k)[j]? = some v) : W.cell? ((⟨g, 0, none⟩ : Addr).add j) = some v := by
  rw [add_plain, blk_cell hb]
  rw [List.getElem?_take] at hj
  split at hj
  · simpa using hj
  · cases hj
theorem hsz3 : (Try.prog.info? 3).map (·.size) = some 1 := by kernel_rfl
theorem cp0 {W : World} {g : Nat} {ad : Addr} (hb : W.heap[g]? = some (.cells #[o0, o0, o0, o0] 3 (0, 0))) (hs : W.cell? ad = some m1) : (Builtin.copy_ #[23, 23] 3 #[.slice (some ⟨g, 0, none⟩) 4 4, .slice (some ad) 1 1]).run Try.prog W = .ok (goInt 1) (W.setRow g #[m1, o0, o0, o0]) :=
  run_copy_row Try.prog W 23 23 3 3 g 0 4 4 ad 1 1 #[o0, o0, o0, o0] 3 [m1] Try.underlying23 hsz3 hb rfl (fun j v hj => by
    match j, hj with
    | 0, hj => simp at hj; rw [show ad.add 0 = ad by simp [Addr.add], hs, hj]
    | j + 1, hj => simp at hj) (by decide) (fun v hv => by simp at hv; subst hv; rfl)
theorem cp1 {W : World} {g : Nat} (hb : W.heap[g]? = some (.cells #[m1, o0, o0, o0] 3 (0, 0))) : (Builtin.copy_ #[23, 23] 3 #[.slice (some ⟨g, 1, none⟩) 3 3, .slice (some ⟨g, 0, none⟩) 1 4]).run Try.prog W = .ok (goInt 1) (W.setRow g #[m1, m1, o0, o0]) :=
  run_copy_row Try.prog W 23 23 3 3 g 1 3 3 ⟨g, 0, none⟩ 1 4 #[m1, o0, o0, o0] 3 [m1] Try.underlying23 hsz3 hb rfl (fun j v hj => by
    match j, hj with
    | 0, hj => rw [add_plain, blk_cell hb]; exact hj
    | j + 1, hj => simp at hj) (by decide) (fun v hv => by simp at hv; subst hv; rfl)
theorem cp2 {W : World} {g : Nat} (hb : W.heap[g]? = some (.cells #[m1, m1, o0, o0] 3 (0, 0))) : (Builtin.copy_ #[23, 23] 3 #[.slice (some ⟨g, 2, none⟩) 2 2, .slice (some ⟨g, 0, none⟩) 2 4]).run Try.prog W = .ok (goInt 2) (W.setRow g #[m1, m1, m1, m1]) :=
  run_copy_row Try.prog W 23 23 3 3 g 2 2 2 ⟨g, 0, none⟩ 2 4 #[m1, m1, o0, o0] 3 [m1, m1] Try.underlying23 hsz3 hb rfl (fun j v hj => by
    match j, hj with
    | 0, hj => rw [add_plain, blk_cell hb]; exact hj
    | 1, hj => rw [add_plain, blk_cell hb]; exact hj
    | j + 2, hj => simp at hj) (by decide) (fun v hv => by simp at hv; subst hv; rfl)
def RepP (w : World) (e : Ending) (w' : World) : Prop := ∃ v, e = .returned v ∧ RowI w' w.heap.size v [-1, -1, -1, -1] ∧ Below w.heap.size w w'
set_option maxRecDepth 100000 in
set_option maxHeartbeats 4000000 in
theorem repeat_calls (ad : Addr) (w : World) (hC : w.cell? ad = some (.int .i64 (-1))) : Calls Try.prog 37 #[.slice (some ad) 1 1, .int .i64 4] w (RepP w) := by
  obtain ⟨i, hi, hz0, hz1, hz2⟩ := info_parts info3
  have qk : ∀ W : World, (Instr.makeSlice 23 (.int .i64 4) (.int .i64 4)).run Try.prog W = .ok (.slice (some ⟨W.heap.size, 0, none⟩) 4 4) (W.alloc (.cells (madeCells #[.int .i64 0] 4) 3)) := fun W => run_make_row' (P := Try.prog) 23 3 (.int .i64 0) 8 Try.underlying23 info3 rfl .i64 .i64 4 (by decide) (by decide) W
  have hm : (madeCells #[Value.int IntKind.i64 0] 4) = #[o0, o0, o0, o0] := by
    apply Array.toList_inj.1
    rw [toList_madeCells_one]
    rfl
  rw [hm] at qk
  have HC := Aside0.mk hC
  clear hC hm
  go_enter Try.func37, Try.ntmps37
  go_wp2_with (first | (go_at_call 60; refine (bits_Mul.calls 1 4 0 4 _ mul_four).mono ?_; rintro e w1 ⟨rfl, hd⟩; have HD := Aside0.mk hd.below; have HN0 := Aside0.mk (blk_new w1 (.cells #[o0, o0, o0, o0] 3)); have hcp := cp0 (ad := ad) HN0.out (pw_cell_below ((Below.refl _ _).alloc (Nat.le_refl _) _) (pw_cell_below hd.below HC.out)); clear hd))
  have HN1 : Aside0 (((w1.alloc (.cells #[o0, o0, o0, o0] 3)).setRow w1.heap.size #[m1, o0, o0, o0]).heap[w1.heap.size]? = some (.cells #[m1, o0, o0, o0] 3 (0, 0))) := ⟨setRow_heap _ _ _ _ _ _ HN0.out⟩
  have HB1 : Aside0 (Below w.heap.size w ((w1.alloc (.cells #[o0, o0, o0, o0] 3)).setRow w1.heap.size #[m1, o0, o0, o0])) := ⟨below_setRow (HD.out.alloc HD.out.size _) HD.out.size _⟩
  have HGE : Aside0 (w.heap.size ≤ w1.heap.size) := ⟨HD.out.size⟩
  clear HN0 HD
  generalize (w1.alloc (.cells #[o0, o0, o0, o0] 3)).setRow w1.heap.size #[m1, o0, o0, o0] = w2 at *
  generalize w1.heap.size = g at *
  go_loopw [8] (fun v8 W => ∃ j : Nat, (j = 1 ∨ j = 2 ∨ j = 4) ∧ v8 = .int .i64 j ∧ Aside0 (W.heap[g]? = some (.cells (repL j).toArray 3 (0, 0))) ∧ Aside0 (Below w.heap.size w W)) (fun v8 _ => 4 - (intOf v8).toNat)
  case atStart => exact ⟨1, .inl rfl, rfl, HN1, HB1⟩
  case round => as_aux_lemma =>
    clear HB1 HN1
    obtain ⟨j, hj, rfl, HN, HB⟩ := hrel
    rcases hj with rfl | rfl | rfl
    · have q1 := cut_from (P := Try.prog) 23 3 .i64 Try.underlying23 hi 1 hz1 (some ⟨g, 0, none⟩) 4 4 1 (by decide) (by decide)
      have q2 := cut_to (P := Try.prog) 23 3 .i64 Try.underlying23 hi (some ⟨g, 0, none⟩) 4 4 1 (by decide) (by decide) (by decide)
      have HN' : wr.drew.heap[g]? = some (.cells #[m1, o0, o0, o0] 3 (0, 0)) := HN.out
      have hcp := cp1 HN'
      have HN2 : Aside0 ((wr.drew.setRow g #[m1, m1, o0, o0]).heap[g]? = some (.cells #[m1, m1, o0, o0] 3 (0, 0))) := ⟨setRow_heap _ _ _ _ _ _ HN'⟩
      have HB2 := Aside0.mk (below_setRow (below_drew HB.out) HGE.out #[m1, m1, o0, o0])
      clear HN'
      go_wp2
      go_region
      clear hcp
      generalize wr.drew.setRow g #[m1, m1, o0, o0] = w3 at *
      go_wp2
      go_roundw
      case rel => exact ⟨2, .inr (.inl rfl), by go_num, HN2, HB2⟩
      case measure => simp [intOf]
    · have q1 := cut_from (P := Try.prog) 23 3 .i64 Try.underlying23 hi 1 hz1 (some ⟨g, 0, none⟩) 4 4 2 (by decide) (by decide)
      have q2 := cut_to (P := Try.prog) 23 3 .i64 Try.underlying23 hi (some ⟨g, 0, none⟩) 4 4 2 (by decide) (by decide) (by decide)
      have HN' : wr.drew.heap[g]? = some (.cells #[m1, m1, o0, o0] 3 (0, 0)) := HN.out
      have hcp := cp2 HN'
      have HN2 : Aside0 ((wr.drew.setRow g #[m1, m1, m1, m1]).heap[g]? = some (.cells #[m1, m1, m1, m1] 3 (0, 0))) := ⟨setRow_heap _ _ _ _ _ _ HN'⟩
      have HB2 := Aside0.mk (below_setRow (below_drew HB.out) HGE.out #[m1, m1, m1, m1])
      clear HN'
      go_wp2
      go_region
      clear hcp
      generalize wr.drew.setRow g #[m1, m1, m1, m1] = w3 at *
      go_wp2
      go_roundw
      case rel => exact ⟨4, .inr (.inr rfl), by go_num, HN2, HB2⟩
      case measure => simp [intOf]
    · go_wp2
      go_ret
      exact ⟨_, rfl, ⟨by rfl, .inr ⟨g, 4, #[m1, m1, m1, m1], rfl, HGE.out, HN.out, by decide, by decide, rfl, rfl⟩⟩, HB.out⟩
end Go.Proofs.Ythnimpbcfegmjaa.Own
/-
  sched.New, walked by hand: its region makes six blocks in any order.
-/
namespace Go.Proofs.Ythnimpbcfegmjaa.Own
open Go.RowKit Go.Proofs.YthnimpbcfegmjaaW.PrintWords Go.Proofs.YthnimpbcfegmjaaW.PrintLast Go.Proofs.YthnimpbcfegmjaaW.PrintMore Go.Proofs.Ythnimpbcfegmjaa.P Go.Proofs.Ythnimpbcfegmjaa.Model
set_option linter.unusedVariables false
set_option linter.unusedSimpArgs false

section
variable {P : Program} {ops : Array Oper} {Q : Exit → Act → World → Prop}
theorem count_set {l : Array Bool} {i : Nat} (h : l.getD i true = false) : i < l.size ∧ (l.setIfInBounds i true).toList.count false + 1 = l.toList.count false := by
  have hi : i < l.size := by
    by_cases hi : i < l.size
    · exact hi
    · simp [hi] at h
  refine ⟨hi, ?_⟩
  have hg : l[i] = false := by simpa [hi] using h
  rw [Array.toList_setIfInBounds, List.count_set (by simpa using hi)]
  have hp : 0 < l.toList.count false := List.count_pos_iff.2 (by rw [← hg]; simp)
  have hg2 : (l.toList[i]'(by simpa using hi)) = false := by simpa using hg
  have e1 : (if ((false : Bool) == false) = true then (1 : Nat) else 0) = 1 := rfl
  have e2 : (if ((true : Bool) == false) = true then (1 : Nat) else 0) = 0 := rfl
  rw [hg2, e1, e2]
  omega
/-- Operations that come up in any order, by what each of them leaves. -/
theorem any_inv (I : Array Bool → Act → World → Prop)
    (hstep : ∀ l a w i, I l a w → i ∈ Region.ready .any ops l → wpOp P ops Q i (fun a' w' => I (l.setIfInBounds i true) a' w' ∨ (Region.ready .any ops (l.setIfInBounds i true) = [] ∧ Q .normal a' w')) a w)
    (hne : ∀ l a w, I l a w → Region.ready .any ops l ≠ []) :
    ∀ (f : Nat) (l : Array Bool) (a : Act) (w : World), l.toList.count false = f → I l a w → wpAnyLast P .any ops Q (fun _ => True) [] f l a w := by
  intro f
  induction f with
  | zero =>
    intro l a w hl hI
    exfalso
    refine hne l a w hI (List.eq_nil_iff_forall_not_mem.2 fun i hi => ?_)
    have := (count_set (mem_ready.1 hi).1).2
    omega
  | succ f ih =>
    intro l a w hl hI
    refine ⟨fun h => absurd h (hne l a w hI), fun i hi => wpOp_mono (fun a' w' h => ⟨fun _ _ => trivial, ?_⟩) (hstep l a w i hI hi)⟩
    have hc := (count_set (mem_ready.1 hi).1).2
    rcases h with h | ⟨h1, h2⟩
    · exact ih _ _ _ (by omega) h
    · exact wpAnyLast_done h1 h2 f
end
abbrev nA (g : Nat) (A : Option Addr) (n c : Nat) (v5 v10 v12 v13 v14 v15 v16 v17 : Value) : Act := { tmps := #[.slice A n c, undef, .pointer (some ⟨g, 0, none⟩), .int .i64 0, .int .i64 n, v5, .slice A n c, .int .i64 n, .slice A n c, .int .i64 n, v10, .int .i64 n, v12, v13, v14, v15, v16, v17, undef, undef, undef, undef, undef], defers := [] }
abbrev z6 : Array Value := #[.slice none 0 0, .slice none 0 0, .slice none 0 0, .slice none 0 0, .slice none 0 0, .slice none 0 0]
structure NewI (w1 : World) (A : Option Addr) (n c : Nat) (b2 b4 b5 b6 b7 b8 b9 b10 : Bool) (v5 v10 v12 v13 v14 v15 v16 v17 : Value) (W : World) : Prop where
  bel : Below w1.heap.size w1 W
  f2 : b2 = true → RowI W w1.heap.size v10 (List.replicate n 0)
  f4 : b4 = true → RowI W w1.heap.size v12 (List.replicate n 0)
  f5 : b5 = true → ∃ g, v13 = .slice (some ⟨g, 0, none⟩) 1 1 ∧ W.cell? ⟨g, 0, none⟩ = some (.int .i64 (-1))
  f6 : b6 = true → RowI W w1.heap.size v14 [-1, -1, -1, -1]
  f7 : b7 = true → RowI W w1.heap.size v15 [0, 0, 0, 0]
  f8 : b8 = true → W.ownsRow w1.heap.size 23 1 v16 4 [.slice none 0 0, .slice none 0 0, .slice none 0 0, .slice none 0 0]
  f9 : b9 = true → v17 = .agg #[.slice A n c, v10, v12, v14, v15, v16] ∧ b2 = true ∧ b4 = true ∧ b6 = true ∧ b7 = true ∧ b8 = true
  f10 : b10 = true → ∃ g, w1.heap.size ≤ g ∧ v5 = .pointer (some ⟨g, 0, none⟩) ∧ W.heap[g]? = some (.cells z6 26 (0, 0))
theorem NewI.up {w1 : World} {A : Option Addr} {n c : Nat} {b2 b4 b5 b6 b7 b8 b9 b10 : Bool} {v5 v10 v12 v13 v14 v15 v16 v17 : Value} {W W' : World} (h : NewI w1 A n c b2 b4 b5 b6 b7 b8 b9 b10 v5 v10 v12 v13 v14 v15 v16 v17 W) (hb : Below W.heap.size W W') : NewI w1 A n c b2 b4 b5 b6 b7 b8 b9 b10 v5 v10 v12 v13 v14 v15 v16 v17 W' :=
  ⟨h.bel.trans (hb.mono h.bel.size), fun x => below_row (h.f2 x) hb, fun x => below_row (h.f4 x) hb, fun x => by obtain ⟨g, h1, h2⟩ := h.f5 x; exact ⟨g, h1, pw_cell_below hb h2⟩, fun x => below_row (h.f6 x) hb, fun x => below_row (h.f7 x) hb, fun x => below_row (h.f8 x) hb, h.f9, fun x => by obtain ⟨g, h1, h2, h3⟩ := h.f10 x; exact ⟨g, h1, h2, blk_below h3 hb⟩⟩
theorem made_row (W : World) (base n : Nat) (hb : base ≤ W.heap.size) (hn : n ≤ 100) : RowI (W.alloc (.cells (madeCells #[.int .i64 0] n) 3)) base (.slice (some ⟨W.heap.size, 0, none⟩) n n) (List.replicate n 0) := by
  have e : (madeCells #[Value.int .i64 0] n).toList = nums .i64 (List.replicate n 0) := by rw [toList_madeCells_one]; simp [nums]
  refine ⟨by rw [List.length_replicate, nums_length, List.length_replicate]; omega, .inr ⟨W.heap.size, n, madeCells #[.int .i64 0] n, by rw [List.length_replicate], hb, heap_alloc_new W _, by rw [List.length_replicate]; exact Nat.le_refl _, Nat.le_trans hn (by decide), by rw [size_madeCells]; omega, ?_⟩⟩
  rw [e, List.take_of_length_le (by rw [nums_length, List.length_replicate]; omega)]
theorem made_chans (W : World) (base : Nat) (hb : base ≤ W.heap.size) : (W.alloc (.cells (madeCells #[.slice none 0 0] 4) 23)).ownsRow base 23 1 (.slice (some ⟨W.heap.size, 0, none⟩) 4 4) 4 [.slice none 0 0, .slice none 0 0, .slice none 0 0, .slice none 0 0] := by
  have e : (madeCells #[Value.slice none 0 0] 4).toList = [.slice none 0 0, .slice none 0 0, .slice none 0 0, .slice none 0 0] := by rw [toList_madeCells_one]; rfl
  refine ⟨rfl, .inr ⟨W.heap.size, 4, madeCells #[.slice none 0 0] 4, rfl, hb, heap_alloc_new W _, Nat.le_refl _, by decide, by rw [size_madeCells], ?_⟩⟩
  rw [e]
  rfl
/-- A system that is made: its rows are the call's own. -/
structure NewR (w : World) (base : Nat) (W : World) (l : List (List S44)) (p : Ad) : Prop where
  bel : Below w.heap.size w W
  r1 : RowI W base (.slice p.a1 l.length p.c1) (List.replicate l.length 0)
  r2 : RowI W base (.slice p.a2 l.length p.c2) (List.replicate l.length 0)
  r3 : RowI W base (.slice p.a3 4 p.c3) [-1, -1, -1, -1]
  r4 : RowI W base (.slice p.a4 4 p.c4) [0, 0, 0, 0]
  r5 : W.ownsRow base 23 1 (.slice p.a5 4 p.c5) 4 [.slice none 0 0, .slice none 0 0, .slice none 0 0, .slice none 0 0]
theorem NewR.below {w W W' : World} {base : Nat} {l : List (List S44)} {p : Ad} (h : NewR w base W l p) (hb : Below W.heap.size W W') : NewR w base W' l p :=
  ⟨h.bel.trans (hb.mono h.bel.size), below_row h.r1 hb, below_row h.r2 hb, below_row h.r3 hb, below_row h.r4 hb, below_row h.r5 hb⟩
theorem rowI_sl {W : World} {base n c : Nat} {A : Option Addr} {xs : List Int} (hn : xs.length = n) (h : RowI W base (.slice A n c) xs) : RowI W base (.slice A xs.length c) xs := by subst hn; exact h
theorem rowI_sixN {W : World} {base g n c : Nat} {A : Option Addr} {xs : List Int} {v0 v1 v2 v3 v4 v5 : Value} (hn : xs.length = n) (h : RowI W base (.slice A n c) xs) (hg : g < base) : RowI ((((((W.setCell ⟨g, 0, none⟩ v0).setCell ⟨g, 1, none⟩ v1).setCell ⟨g, 2, none⟩ v2).setCell ⟨g, 3, none⟩ v3).setCell ⟨g, 4, none⟩ v4).setCell ⟨g, 5, none⟩ v5) base (.slice A n c) xs := by subst hn; exact row_six h hg
theorem NewR.six {w W : World} {base g : Nat} {l : List (List S44)} {p : Ad} (h : NewR w base W l p) (hg : g < base) (hw : w.heap.size ≤ g) (v0 v1 v2 v3 v4 v5 : Value) : NewR w base ((((((W.setCell ⟨g, 0, none⟩ v0).setCell ⟨g, 1, none⟩ v1).setCell ⟨g, 2, none⟩ v2).setCell ⟨g, 3, none⟩ v3).setCell ⟨g, 4, none⟩ v4).setCell ⟨g, 5, none⟩ v5) l p :=
  ⟨below_six h.bel hw, rowI_sixN List.length_replicate h.r1 hg, rowI_sixN List.length_replicate h.r2 hg, rowI_sixN rfl h.r3 hg, rowI_sixN rfl h.r4 hg, row_six h.r5 hg⟩
theorem ob_ne {W : World} {base n m c g : Nat} {e : TypeId} {size : Nat} {A : Option Addr} {xs : List Value} {cs : Array Value} (h : W.ownsRow base e size (.slice A n c) m xs) (hg : W.heap[g]? = some (.cells cs 26 (0, 0))) (he : e ≠ 26) : ob A ≠ some g := by
  intro ha
  rcases h.2 with ⟨h1, _⟩ | ⟨g', cap, cur, h1, h2, h3, _⟩
  · injection h1 with h1
    subst h1
    cases ha
  · injection h1 with h1
    subst h1
    injection ha with ha
    have e' : g' = g := ha
    subst e'
    rw [h3] at hg
    injection hg with hg
    injection hg with _ hg
    exact he hg
theorem far_six {W : World} {base n c g : Nat} {e : TypeId} {size : Nat} {A : Option Addr} {xs : List Value} {v0 v1 v2 v3 v4 v5 : Value} (h : W.ownsRow base e size (.slice A n c) n xs) (hp : ob A ≠ some g) : ((((((W.setCell ⟨g, 0, none⟩ v0).setCell ⟨g, 1, none⟩ v1).setCell ⟨g, 2, none⟩ v2).setCell ⟨g, 3, none⟩ v3).setCell ⟨g, 4, none⟩ v4).setCell ⟨g, 5, none⟩ v5).ownsRow base e size (.slice A n c) n xs :=
  own_far (own_far (own_far (own_far (own_far (own_far h hp _) hp _) hp _) hp _) hp _) hp _
theorem far_sixI {W : World} {base n c g : Nat} {A : Option Addr} {xs : List Int} {v0 v1 v2 v3 v4 v5 : Value} (hn : xs.length = n) (h : RowI W base (.slice A n c) xs) (hp : ob A ≠ some g) : RowI ((((((W.setCell ⟨g, 0, none⟩ v0).setCell ⟨g, 1, none⟩ v1).setCell ⟨g, 2, none⟩ v2).setCell ⟨g, 3, none⟩ v3).setCell ⟨g, 4, none⟩ v4).setCell ⟨g, 5, none⟩ v5) base (.slice A n c) xs := by subst hn; exact far_six h hp
theorem NewR.sys {P : Nat → Bool} {w W : World} {base : Nat} {l : List (List S44)} {p : Ad} (h : NewR w base W l p) (hC : CT (hid P w) p.a0 l) (hc : l.length ≤ p.c0) (hP : ∀ k, P k = true → k < base) : SysC (hid P W) (newS l) p := by
  have hi : Inner (hid P W) [.slice none 0 0, .slice none 0 0, .slice none 0 0, .slice none 0 0] (newS l).ch := fun j x u hx hu => by
    have hx2 : x = [] := by
      have := List.mem_of_getElem? hx
      simpa [newS] using this
    have hu2 : u = .slice none 0 0 := by
      have := List.mem_of_getElem? hu
      simpa using this
    subst hx2 hu2
    exact ⟨none, 0, rfl, Nat.le_refl _, C_nil _ _⟩
  obtain ⟨h5, h6⟩ := ownR_C (xs := (newS l).ch) (hid_row h.r5 hP) hi (Up.refl _)
  have hu : Up (hid P w) (hid P W) := up_hid h.bel (fun _ _ h => h)
  have rI : ∀ {A : Option Addr} {n c : Nat} {xs : List Int}, xs.length = n → RowI W base (.slice A n c) xs → CI (hid P W) A xs ∧ xs.length ≤ c := fun {A n c xs} hn hr => by
    subst hn
    exact rowI_CI (w := hid P W) (b := base) (hid_row hr hP)
  obtain ⟨a1, a2⟩ := rI List.length_replicate h.r1
  obtain ⟨a3, a4⟩ := rI List.length_replicate h.r2
  obtain ⟨a5, a6⟩ := rI rfl h.r3
  obtain ⟨a7, a8⟩ := rI rfl h.r4
  exact ⟨CT_up hC hu, hc, a1, a2, a3, a4, a5, a6, a7, a8, h5, h6⟩
theorem new_bd {l : List (List S44)} (hb1 : l.length ≤ 10) (hb2 : ∀ t : List S44, t ∈ l → t.length ≤ 18) : Bd (newS l) := by
  refine ⟨?_, ?_, ?_, ?_, ?_, ?_, fun t ht => ?_, fun t ht => ?_⟩
  · show l.length ≤ 100; omega
  · show (List.replicate l.length (0 : Int)).length ≤ 100; rw [List.length_replicate]; omega
  · show (List.replicate l.length (0 : Int)).length ≤ 100; rw [List.length_replicate]; omega
  · show (4 : Nat) ≤ 100; decide
  · show (4 : Nat) ≤ 100; decide
  · show (4 : Nat) ≤ 100; decide
  · have := hb2 t ht; omega
  · have : t = [] := by simpa [newS] using ht
    subst this
    decide
set_option maxRecDepth 100000 in
theorem build26 (A B1 B2 B3 B4 B5 : Option Addr) (n c d1 d2 d3 d4 d5 m1 m2 m3 m4 m5 : Nat) (W : World) : (Instr.build 26 #[(0, .slice A n c), (1, .slice B1 m1 d1), (2, .slice B2 m2 d2), (3, .slice B3 m3 d3), (4, .slice B4 m4 d4), (5, .slice B5 m5 d5)]).run Try.prog W = .ok (.agg #[.slice A n c, .slice B1 m1 d1, .slice B2 m2 d2, .slice B3 m3 d3, .slice B4 m4 d4, .slice B5 m5 d5]) W := by
  go_simp
def xNew (l : List (List S44)) : Syst × Int := if rightB (newS l) = true then (newS l, 0) else (Syst.none, 1)
set_option maxRecDepth 100000 in
set_option maxHeartbeats 4000000 in
theorem xNew_calls (P : Nat → Bool) (A : Option Addr) (c : Nat) (l : List (List S44)) (w : World) (hC0 : CT (hid P w) A l) (hc : l.length ≤ c) (hP : ∀ k, P k = true → k < w.heap.size) (hb1 : l.length ≤ 10) (hb2 : ∀ t : List S44, t ∈ l → t.length ≤ 18) : Calls Try.prog 15 #[.slice A l.length c] w (XStepP P (xNew l) w) := by
  have qkn : ∀ W : World, (Instr.makeSlice 23 (.int .i64 (l.length : Int)) (.int .i64 (l.length : Int))).run Try.prog W = .ok (.slice (some ⟨W.heap.size, 0, none⟩) l.length l.length) (W.alloc (.cells (madeCells #[.int .i64 0] l.length) 3)) := fun W => run_make_row' (P := Try.prog) 23 3 (.int .i64 0) 8 Try.underlying23 info3 rfl .i64 .i64 l.length (by omega) (by omega) W
  have qk4 : ∀ W : World, (Instr.makeSlice 23 (.int .i64 4) (.int .i64 4)).run Try.prog W = .ok (.slice (some ⟨W.heap.size, 0, none⟩) 4 4) (W.alloc (.cells (madeCells #[.int .i64 0] 4) 3)) := fun W => run_make_row' (P := Try.prog) 23 3 (.int .i64 0) 8 Try.underlying23 info3 rfl .i64 .i64 4 (by decide) (by decide) W
  have qkc : ∀ W : World, (Instr.makeSlice 24 (.int .i64 4) (.int .i64 4)).run Try.prog W = .ok (.slice (some ⟨W.heap.size, 0, none⟩) 4 4) (W.alloc (.cells (madeCells #[.slice none 0 0] 4) 23)) := fun W => run_make_row' (P := Try.prog) 24 23 (.slice none 0 0) 24 Try.underlying24 info23 rfl .i64 .i64 4 (by decide) (by decide) W
  have HL := Aside0.mk hb1
  have HL2 := Aside0.mk hb2
  have HC0 := Aside0.mk hC0
  have HC := Aside0.mk hc
  have HP := Aside0.mk hP
  clear hC0 hc hP hb1 hb2
  go_enter Try.func15, Try.ntmps15
  go_wp2
  refine start_ (n := 12) (S := fun _ => True) (ds := []) #[false, false, false, false, false, false, false, false, false, false, false, false] (by kernel_rfl) rfl rfl trivial (fun _ => ?_)
  have HZ0 : Aside0 ((w.alloc (.cells z6 26)).drew.heap[w.heap.size]? = some (.cells z6 26 (0, 0))) := ⟨blk_new w _⟩
  have HB0 := Aside0.mk (below_drew ((Below.refl w.heap.size w).alloc (Nat.le_refl _) (.cells z6 26)))
  generalize (w.alloc (.cells z6 26)).drew = w1 at *
  have HW1 : Aside0 (w.heap.size < w1.heap.size) := ⟨blk_lt HZ0.out⟩
  refine pure_ (i := 0) (N := some 8) (v := ?_) (a' := ?_) #[true, false, false, false, false, false, false, false, false, false, false, false] rfl rfl (by kernel_rfl) (fun _ _ _ h => h) (Or.inl ⟨by rfl, ?_⟩) ?_ ?_
  rotate_left
  · intro w'
    go_simp
    with_reducible rfl
  rotate_left
  · simp only [Act.put, List.setIfInBounds_toArray, List.set_cons_zero, List.set_cons_succ, i64_w, i32_w]
    rfl
  refine pure_ (i := 1) (N := some 9) (v := ?_) (a' := ?_) #[true, true, false, false, false, false, false, false, false, false, false, false] rfl rfl (by kernel_rfl) (fun _ _ _ h => h) (Or.inl ⟨by rfl, ?_⟩) ?_ ?_
  rotate_left
  · intro w'
    go_simp
    with_reducible rfl
  rotate_left
  · simp only [Act.put, List.setIfInBounds_toArray, List.set_cons_zero, List.set_cons_succ, i64_w, i32_w]
    rfl
  refine pure_ (i := 3) (N := some 11) (v := ?_) (a' := ?_) #[true, true, false, true, false, false, false, false, false, false, false, false] rfl rfl (by kernel_rfl) (fun _ _ _ h => h) (Or.inl ⟨by rfl, ?_⟩) ?_ ?_
  rotate_left
  · intro w'
    go_simp
    with_reducible rfl
  rotate_left
  · simp only [Act.put, List.setIfInBounds_toArray, List.set_cons_zero, List.set_cons_succ, i64_w, i32_w]
    rfl
  refine any_inv (fun ls a W => ∃ (b2 b4 b5 b6 b7 b8 b9 b10 : Bool) (v5 v10 v12 v13 v14 v15 v16 v17 : Value), ls = #[true, true, b2, true, b4, b5, b6, b7, b8, b9, b10, false] ∧ a = nA w.heap.size A l.length c v5 v10 v12 v13 v14 v15 v16 v17 ∧ NewI w1 A l.length c b2 b4 b5 b6 b7 b8 b9 b10 v5 v10 v12 v13 v14 v15 v16 v17 W) ?_ ?_ 9 _ _ _ rfl ?_
  · rintro ls a W i ⟨b2, b4, b5, b6, b7, b8, b9, b10, v5, v10, v12, v13, v14, v15, v16, v17, rfl, rfl, hI⟩ hi
    obtain ⟨hun, o, ho, hall⟩ := mem_ready.1 hi
    have hi12 : i < 12 := (count_set hun).1
    have HI := Aside0.mk hI
    clear hI hi
    match i, hi12 with
    | 0, _ => cases hun
    | 1, _ => cases hun
    | 2, _ =>
      have hb : b2 = false := hun
      subst hb
      clear ho hall
      as_aux_lemma =>
      refine wpOp_step rfl (fun K hK => ?_)
      refine value_ (v := (.slice (some ⟨W.heap.size, 0, none⟩) l.length l.length)) (w1 := W.alloc (.cells (madeCells #[.int .i64 0] l.length) 3)) (by rfl) rfl ?_ ?_
      · have qk := qkn W; go_simp
      · have hb2 := (Below.refl W.heap.size W).alloc (Nat.le_refl _) ((.cells (madeCells #[.int .i64 0] l.length) 3))
        have hI2 := HI.out.up hb2
        refine hK _ _ (.inl ⟨true, b4, b5, b6, b7, b8, b9, b10, v5, (.slice (some ⟨W.heap.size, 0, none⟩) l.length l.length), v12, v13, v14, v15, v16, v17, rfl, rfl, { hI2 with f2 := fun _ => made_row W _ _ HI.out.bel.size (Nat.le_trans HL.out (by decide)), f9 := fun h9 => by have := hI2.f9 h9; simp at this }⟩)
    | 3, _ => cases hun
    | 4, _ =>
      have hb : b4 = false := hun
      subst hb
      clear ho hall
      as_aux_lemma =>
      refine wpOp_step rfl (fun K hK => ?_)
      refine value_ (v := (.slice (some ⟨W.heap.size, 0, none⟩) l.length l.length)) (w1 := W.alloc (.cells (madeCells #[.int .i64 0] l.length) 3)) (by rfl) rfl ?_ ?_
      · have qk := qkn W; go_simp
      · have hb2 := (Below.refl W.heap.size W).alloc (Nat.le_refl _) ((.cells (madeCells #[.int .i64 0] l.length) 3))
        have hI2 := HI.out.up hb2
        refine hK _ _ (.inl ⟨b2, true, b5, b6, b7, b8, b9, b10, v5, v10, (.slice (some ⟨W.heap.size, 0, none⟩) l.length l.length), v13, v14, v15, v16, v17, rfl, rfl, { hI2 with f4 := fun _ => made_row W _ _ HI.out.bel.size (Nat.le_trans HL.out (by decide)), f9 := fun h9 => by have := hI2.f9 h9; simp at this }⟩)
    | 5, _ =>
      have hb : b5 = false := hun
      subst hb
      clear ho hall
      as_aux_lemma =>
      refine wpOp_step rfl (fun K hK => ?_)
      refine value_ (v := (.slice (some ⟨W.heap.size, 0, none⟩) 1 1)) (w1 := W.alloc (.cells #[.int .i64 (-1)] 3)) (by rfl) rfl ?_ ?_
      · go_simp
      · have hb2 := (Below.refl W.heap.size W).alloc (Nat.le_refl _) ((.cells #[.int .i64 (-1)] 3))
        have hI2 := HI.out.up hb2
        refine hK _ _ (.inl ⟨b2, b4, true, b6, b7, b8, b9, b10, v5, v10, v12, (.slice (some ⟨W.heap.size, 0, none⟩) 1 1), v14, v15, v16, v17, rfl, rfl, { hI2 with f5 := fun _ => ⟨_, rfl, blk_cell (blk_new W _) 0⟩ }⟩)
    | 6, _ =>
      have hb : b6 = false := hun
      subst hb
      have hb5 : b5 = true := by
        cases ho
        exact hall ⟨5, .data⟩ (by simp) rfl
      subst hb5
      clear ho hall
      obtain ⟨g, rfl, hc5⟩ := HI.out.f5 rfl
      as_aux_lemma =>
      refine wpOp_step rfl (fun K hK => ?_)
      refine goes_ Try.func37 (by kernel_rfl) rfl #[.slice (some ⟨g, 0, none⟩) 1 1, .int .i64 4] (by rfl) rfl rfl (by (try simp only [List.map_toArray, List.map_cons, List.map_nil]); first | done | rfl) ?_
      refine (repeat_calls _ W hc5).mono ?_
      rintro e W' ⟨v, rfl, hr, hb2⟩
      refine ⟨_, rfl, ?_⟩
      have hI2 := HI.out.up hb2
      refine hK _ _ (.inl ⟨b2, b4, true, true, b7, b8, b9, b10, v5, v10, v12, (.slice (some ⟨g, 0, none⟩) 1 1), v, v15, v16, v17, rfl, rfl, { hI2 with f6 := fun _ => own_weaken hr HI.out.bel.size, f9 := fun h9 => by have := hI2.f9 h9; simp at this }⟩)
    | 7, _ =>
      have hb : b7 = false := hun
      subst hb
      clear ho hall
      as_aux_lemma =>
      refine wpOp_step rfl (fun K hK => ?_)
      refine value_ (v := (.slice (some ⟨W.heap.size, 0, none⟩) 4 4)) (w1 := W.alloc (.cells (madeCells #[.int .i64 0] 4) 3)) (by rfl) rfl ?_ ?_
      · have qk := qk4 W; go_simp
      · have hb2 := (Below.refl W.heap.size W).alloc (Nat.le_refl _) ((.cells (madeCells #[.int .i64 0] 4) 3))
        have hI2 := HI.out.up hb2
        refine hK _ _ (.inl ⟨b2, b4, b5, b6, true, b8, b9, b10, v5, v10, v12, v13, v14, (.slice (some ⟨W.heap.size, 0, none⟩) 4 4), v16, v17, rfl, rfl, { hI2 with f7 := fun _ => made_row W _ 4 HI.out.bel.size (by decide), f9 := fun h9 => by have := hI2.f9 h9; simp at this }⟩)
    | 8, _ =>
      have hb : b8 = false := hun
      subst hb
      clear ho hall
      as_aux_lemma =>
      refine wpOp_step rfl (fun K hK => ?_)
      refine value_ (v := (.slice (some ⟨W.heap.size, 0, none⟩) 4 4)) (w1 := W.alloc (.cells (madeCells #[.slice none 0 0] 4) 23)) (by rfl) rfl ?_ ?_
      · have qk := qkc W; go_simp
      · have hb2 := (Below.refl W.heap.size W).alloc (Nat.le_refl _) ((.cells (madeCells #[.slice none 0 0] 4) 23))
        have hI2 := HI.out.up hb2
        refine hK _ _ (.inl ⟨b2, b4, b5, b6, b7, true, b9, b10, v5, v10, v12, v13, v14, v15, (.slice (some ⟨W.heap.size, 0, none⟩) 4 4), v17, rfl, rfl, { hI2 with f8 := fun _ => made_chans W _ HI.out.bel.size, f9 := fun h9 => by have := hI2.f9 h9; simp at this }⟩)
    | 9, _ =>
      have hb : b9 = false := hun
      subst hb
      have hbs : b2 = true ∧ b4 = true ∧ b6 = true ∧ b7 = true ∧ b8 = true := by
        cases ho
        exact ⟨hall ⟨2, .data⟩ (by simp) rfl, hall ⟨4, .data⟩ (by simp) rfl, hall ⟨6, .data⟩ (by simp) rfl, hall ⟨7, .data⟩ (by simp) rfl, hall ⟨8, .data⟩ (by simp) rfl⟩
      obtain ⟨rfl, rfl, rfl, rfl, rfl⟩ := hbs
      clear ho hall
      obtain ⟨B1, d1, rfl⟩ := row_slice (HI.out.f2 rfl)
      obtain ⟨B2, d2, rfl⟩ := row_slice (HI.out.f4 rfl)
      obtain ⟨B3, d3, rfl⟩ := row_slice (HI.out.f6 rfl)
      obtain ⟨B4, d4, rfl⟩ := row_slice (HI.out.f7 rfl)
      obtain ⟨B5, d5, rfl⟩ := row_slice (HI.out.f8 rfl)
      have e1 : (List.replicate l.length (0 : Int)).length = l.length := List.length_replicate
      have e3 : ([-1, -1, -1, -1] : List Int).length = 4 := rfl
      have e4 : ([0, 0, 0, 0] : List Int).length = 4 := rfl
      rw [e1, e3, e4] at HI
      rw [e1, e3, e4]
      clear e1 e3 e4
      generalize l.length = n at *
      as_aux_lemma =>
      refine wpOp_step rfl (fun K hK => ?_)
      refine value_ (v := .agg #[.slice A n c, .slice B1 n d1, .slice B2 n d2, .slice B3 4 d3, .slice B4 4 d4, .slice B5 4 d5]) (w1 := W) (by rfl) rfl ?_ ?_
      · have qb := build26 A B1 B2 B3 B4 B5 n c d1 d2 d3 d4 d5 n n 4 4 4 W
        simp [execOp]
        exact (congrArg (fun r => Result.andThen r _) qb).trans rfl
      · refine hK _ _ (.inl ⟨true, true, b5, true, true, true, true, b10, v5, .slice B1 n d1, .slice B2 n d2, v13, .slice B3 4 d3, .slice B4 4 d4, .slice B5 4 d5, .agg #[.slice A n c, .slice B1 n d1, .slice B2 n d2, .slice B3 4 d3, .slice B4 4 d4, .slice B5 4 d5], rfl, rfl, { HI.out with f9 := fun _ => ⟨rfl, rfl, rfl, rfl, rfl, rfl⟩ }⟩)
    | 10, _ =>
      have hb : b10 = false := hun
      subst hb
      clear ho hall
      as_aux_lemma =>
      refine wpOp_step rfl (fun K hK => ?_)
      refine value_ (v := (.pointer (some ⟨W.heap.size, 0, none⟩))) (w1 := W.alloc (.cells z6 26)) (by rfl) rfl ?_ ?_
      · go_simp
      · have hb2 := (Below.refl W.heap.size W).alloc (Nat.le_refl _) ((.cells z6 26))
        have hI2 := HI.out.up hb2
        refine hK _ _ (.inl ⟨b2, b4, b5, b6, b7, b8, b9, true, (.pointer (some ⟨W.heap.size, 0, none⟩)), v10, v12, v13, v14, v15, v16, v17, rfl, rfl, { hI2 with f10 := fun _ => ⟨_, HI.out.bel.size, rfl, blk_new W _⟩ }⟩)
    | 11, _ =>
      have hbs : b2 = true ∧ b4 = true ∧ b6 = true ∧ b7 = true ∧ b8 = true ∧ b9 = true ∧ b10 = true ∧ b5 = true := by
        cases ho
        exact ⟨hall ⟨2, .phase⟩ (by simp) rfl, hall ⟨4, .phase⟩ (by simp) rfl, hall ⟨6, .phase⟩ (by simp) rfl, hall ⟨7, .phase⟩ (by simp) rfl, hall ⟨8, .phase⟩ (by simp) rfl, hall ⟨9, .phase⟩ (by simp) rfl, hall ⟨10, .phase⟩ (by simp) rfl, hall ⟨5, .phase⟩ (by simp) rfl⟩
      obtain ⟨rfl, rfl, rfl, rfl, rfl, rfl, rfl, rfl⟩ := hbs
      clear ho hall hun
      obtain ⟨rfl, -⟩ := HI.out.f9 rfl
      obtain ⟨g, hg, rfl, hblk⟩ := HI.out.f10 rfl
      obtain ⟨B1, d1, rfl⟩ := row_slice (HI.out.f2 rfl)
      obtain ⟨B2, d2, rfl⟩ := row_slice (HI.out.f4 rfl)
      obtain ⟨B3, d3, rfl⟩ := row_slice (HI.out.f6 rfl)
      obtain ⟨B4, d4, rfl⟩ := row_slice (HI.out.f7 rfl)
      obtain ⟨B5, d5, rfl⟩ := row_slice (HI.out.f8 rfl)
      have e1 : (List.replicate l.length (0 : Int)).length = l.length := List.length_replicate
      have e3 : ([-1, -1, -1, -1] : List Int).length = 4 := rfl
      have e4 : ([0, 0, 0, 0] : List Int).length = 4 := rfl
      rw [e1, e3, e4] at HI
      rw [e1, e3, e4]
      clear e3 e4
      have HNR : Aside0 (NewR w w1.heap.size ((((((W.setCell ⟨g, 0, none⟩ (.slice A l.length c)).setCell ⟨g, 1, none⟩ (.slice B1 l.length d1)).setCell ⟨g, 2, none⟩ (.slice B2 l.length d2)).setCell ⟨g, 3, none⟩ (.slice B3 4 d3)).setCell ⟨g, 4, none⟩ (.slice B4 4 d4)).setCell ⟨g, 5, none⟩ (.slice B5 4 d5)) l ⟨A, c, B1, d1, B2, d2, B3, d3, B4, d4, B5, d5⟩) := ⟨⟨below_six (HB0.out.trans (HI.out.bel.mono HB0.out.size)) (Nat.le_trans (Nat.le_of_lt HW1.out) hg), far_sixI List.length_replicate (HI.out.f2 rfl) (ob_ne (HI.out.f2 rfl) hblk (by decide)), far_sixI List.length_replicate (HI.out.f4 rfl) (ob_ne (HI.out.f4 rfl) hblk (by decide)), far_sixI rfl (HI.out.f6 rfl) (ob_ne (HI.out.f6 rfl) hblk (by decide)), far_sixI rfl (HI.out.f7 rfl) (ob_ne (HI.out.f7 rfl) hblk (by decide)), far_six (HI.out.f8 rfl) (ob_ne (HI.out.f8 rfl) hblk (by decide))⟩⟩
      have HG := Aside0.mk (six_put (.slice A l.length c) (.slice B1 l.length d1) (.slice B2 l.length d2) (.slice B3 4 d3) (.slice B4 4 d4) (.slice B5 4 d5) hblk)
      have HZ := Aside0.mk (blk_six_far (g := g) (v0 := .slice A l.length c) (v1 := .slice B1 l.length d1) (v2 := .slice B2 l.length d2) (v3 := .slice B3 4 d3) (v4 := .slice B4 4 d4) (v5 := .slice B5 4 d5) (blk_low HI.out.bel HW1.out HZ0.out) (Nat.ne_of_lt (Nat.lt_of_lt_of_le HW1.out hg)))
      refine wpOp_step rfl (fun K hK => ?_)
      obtain ⟨q0, q1, q2, q3, q4, q5⟩ := six_cells hblk
      obtain ⟨x0, x1, x2, x3, x4, x5⟩ := six_frozen hblk
      refine skip_ (w1 := ?_) (by rfl) rfl ?_ ?_
      rotate_left
      · go_simp
        rfl
      clear q0 q1 q2 q3 q4 q5 x0 x1 x2 x3 x4 x5 hblk HI
      refine hK _ _ (.inr ⟨by kernel_rfl, ?_⟩)
      clear hK K
      generalize ((((((W.setCell ⟨g, 0, none⟩ (.slice A l.length c)).setCell ⟨g, 1, none⟩ (.slice B1 l.length d1)).setCell ⟨g, 2, none⟩ (.slice B2 l.length d2)).setCell ⟨g, 3, none⟩ (.slice B3 4 d3)).setCell ⟨g, 4, none⟩ (.slice B4 4 d4)).setCell ⟨g, 5, none⟩ (.slice B5 4 d5)) = W1 at *
      obtain ⟨q0, q1, q2, q3, q4, q5⟩ := six_cells HG.out
      have HR : Aside0 (Calls Try.prog 20 #[.agg #[.slice A l.length c, .slice B1 l.length d1, .slice B2 l.length d2, .slice B3 4 d3, .slice B4 4 d4, .slice B5 4 d5]] W1 (fun e w' => e = .returned (.bool (rightB (newS l))) ∧ Below W1.heap.size W1 w')) := ⟨by
        have h1 := right_calls (newS l) ⟨A, c, B1, d1, B2, d2, B3, d3, B4, d4, B5, d5⟩ W1 ((HNR.out.sys HC0.out HC.out (fun k hk => Nat.lt_trans (HP.out k hk) HW1.out)).up (hid_up P W1)) (new_bd HL.out HL2.out)
        unfold sysA at h1
        dsimp only [newS] at h1
        rw [e1] at h1
        exact h1⟩
      clear e1
      cases hr : rightB (newS l) with
      | false =>
        have HX : Aside0 (xNew l = (Syst.none, 1)) := ⟨by unfold xNew; rw [hr]; rfl⟩
        rw [hr] at HR
        clear hr
        as_aux_lemma =>
        go_wp2_with (go_at_call 20; refine HR.out.mono ?_; rintro e w3 ⟨rfl, hb⟩; replace HZ := Aside0.mk (blk_below HZ.out hb); replace HNR := Aside0.mk (HNR.out.below hb); clear hb q0 q1 q2 q3 q4 q5; obtain ⟨z0, z1, z2, z3, z4, z5⟩ := six_cells HZ.out; obtain ⟨y0, y1, y2, y3, y4, y5⟩ := six_frozen HZ.out)
        refine bodyPost_ret (results_ct rfl _ _ w.heap.size 26 _ (0, 0) _ rfl (six_put _ _ _ _ _ _ HZ.out) Try.underlying26 rfl (by kernel_rfl)) rfl ?_
        rw [HX.out]
        exact ⟨Ad.none, rfl, SysC_none _, below_six HNR.out.bel (Nat.le_refl _)⟩
      | true =>
        have HX : Aside0 (xNew l = (newS l, 0)) := ⟨by unfold xNew; rw [hr]; rfl⟩
        have e2 : (newS l).at_.length = l.length := List.length_replicate
        have e3 : (newS l).su.length = l.length := List.length_replicate
        have HE : Aside0 (sysA (newS l) ⟨A, c, B1, d1, B2, d2, B3, d3, B4, d4, B5, d5⟩ = #[.slice A l.length c, .slice B1 l.length d1, .slice B2 l.length d2, .slice B3 4 d3, .slice B4 4 d4, .slice B5 4 d5]) := ⟨by unfold sysA; dsimp only; rw [e2, e3]; rfl⟩
        rw [hr] at HR
        clear hr e2 e3
        as_aux_lemma =>
        go_wp2_with (go_at_call 20; refine HR.out.mono ?_; rintro e w3 ⟨rfl, hb⟩; replace HZ := Aside0.mk (blk_below HZ.out hb); replace HG := Aside0.mk (blk_below HG.out hb); replace HNR := Aside0.mk (HNR.out.below hb); clear hb q0 q1 q2 q3 q4 q5; obtain ⟨q0, q1, q2, q3, q4, q5⟩ := six_cells HG.out; obtain ⟨z0, z1, z2, z3, z4, z5⟩ := six_cells HZ.out; obtain ⟨y0, y1, y2, y3, y4, y5⟩ := six_frozen HZ.out)
        refine bodyPost_ret (results_ct rfl _ _ w.heap.size 26 _ (0, 0) _ rfl (six_put _ _ _ _ _ _ HZ.out) Try.underlying26 rfl (by kernel_rfl)) rfl ?_
        rw [HX.out]
        have hn := HNR.out.six HW1.out (Nat.le_refl _) (.slice A l.length c) (.slice B1 l.length d1) (.slice B2 l.length d2) (.slice B3 4 d3) (.slice B4 4 d4) (.slice B5 4 d5)
        exact ⟨⟨A, c, B1, d1, B2, d2, B3, d3, B4, d4, B5, d5⟩, by dsimp only; rw [HE.out]; rfl, hn.sys HC0.out HC.out (fun k hk => Nat.lt_trans (HP.out k hk) HW1.out), hn.bel⟩
  · rintro ls a W ⟨b2, b4, b5, b6, b7, b8, b9, b10, v5, v10, v12, v13, v14, v15, v16, v17, rfl, rfl, hI⟩ hnil
    have t2 : b2 = true := by
      cases b2 with
      | true => rfl
      | false => exact absurd (hnil ▸ (mem_ready.2 ⟨rfl, _, rfl, by simp⟩ : 2 ∈ Region.ready .any _ _)) (by simp)
    have t4 : b4 = true := by
      cases b4 with
      | true => rfl
      | false => exact absurd (hnil ▸ (mem_ready.2 ⟨rfl, _, rfl, by simp⟩ : 4 ∈ Region.ready .any _ _)) (by simp)
    have t5 : b5 = true := by
      cases b5 with
      | true => rfl
      | false => exact absurd (hnil ▸ (mem_ready.2 ⟨rfl, _, rfl, by simp⟩ : 5 ∈ Region.ready .any _ _)) (by simp)
    subst t2 t4 t5
    have t6 : b6 = true := by
      cases b6 with
      | true => rfl
      | false => exact absurd (hnil ▸ (mem_ready.2 ⟨rfl, _, rfl, by simp⟩ : 6 ∈ Region.ready .any _ _)) (by simp)
    have t7 : b7 = true := by
      cases b7 with
      | true => rfl
      | false => exact absurd (hnil ▸ (mem_ready.2 ⟨rfl, _, rfl, by simp⟩ : 7 ∈ Region.ready .any _ _)) (by simp)
    have t8 : b8 = true := by
      cases b8 with
      | true => rfl
      | false => exact absurd (hnil ▸ (mem_ready.2 ⟨rfl, _, rfl, by simp⟩ : 8 ∈ Region.ready .any _ _)) (by simp)
    have t10 : b10 = true := by
      cases b10 with
      | true => rfl
      | false => exact absurd (hnil ▸ (mem_ready.2 ⟨rfl, _, rfl, by simp⟩ : 10 ∈ Region.ready .any _ _)) (by simp)
    subst t6 t7 t8 t10
    have t9 : b9 = true := by
      cases b9 with
      | true => rfl
      | false => exact absurd (hnil ▸ (mem_ready.2 ⟨rfl, _, rfl, by simp⟩ : 9 ∈ Region.ready .any _ _)) (by simp)
    subst t9
    exact absurd (hnil ▸ (mem_ready.2 ⟨rfl, _, rfl, by simp⟩ : 11 ∈ Region.ready .any _ _)) (by simp)
  · exact ⟨false, false, false, false, false, false, false, false, undef, undef, undef, undef, undef, undef, undef, undef, rfl, rfl, ⟨Below.refl _ _, fun h => (nomatch h), fun h => (nomatch h), fun h => (nomatch h), fun h => (nomatch h), fun h => (nomatch h), fun h => (nomatch h), fun h => (nomatch h), fun h => (nomatch h)⟩⟩
end Go.Proofs.Ythnimpbcfegmjaa.Own
/-
  downpourlaw20.alive, walked by hand.
-/
namespace Go.Proofs.Ythnimpbcfegmjaa.Own
open Go.RowKit Go.Proofs.YthnimpbcfegmjaaW.PrintWords Go.Proofs.YthnimpbcfegmjaaW.PrintLast Go.Proofs.YthnimpbcfegmjaaW.PrintMore Go.Proofs.Ythnimpbcfegmjaa.P Go.Proofs.Ythnimpbcfegmjaa.Model
set_option linter.unusedVariables false
set_option linter.unusedSimpArgs false

def aL : List (List S44) := [[⟨2, 1, 5⟩]]
theorem aL_new : xNew aL = (newS aL, 0) := by
  unfold xNew
  rw [if_pos (by decide +kernel)]
theorem aL_right : rightB (newS aL) = true := by decide +kernel
theorem aL_went : (runS (newS aL) [0, 0]).2.length = 1 := by decide +kernel
theorem aL_ce : (runS (newS aL) [0, 0]).1.ce = [0, 5, 0, 0] := by decide +kernel
theorem aL_CT {W : World} {g1 g2 : Nat} (h1 : W.heap[g1]? = some (.cells #[.int .i64 2, .int .i64 1, .int .i64 5] 44 (0, 0))) (h2 : W.heap[g2]? = some (.cells #[.slice (some ⟨g1, 0, none⟩) 1 1] 42 (0, 0))) : CT W (some ⟨g2, 0, none⟩) aL := by
  refine ⟨rfl, by decide, fun _ => ⟨_, rfl, fun j p hj => ?_⟩⟩
  match j, hj with
  | 0, hj =>
    obtain rfl : [⟨2, 1, 5⟩] = p := by simpa [aL] using hj
    refine ⟨[.slice (some ⟨g1, 0, none⟩) 1 1], rfl, ⟨some ⟨g1, 0, none⟩, 1, rfl, Nat.le_refl _, rfl, by decide, fun _ => ⟨_, rfl, fun j q hj => ?_⟩⟩, fun i u hu => ?_⟩
    · match j, hj with
      | 0, hj =>
        obtain rfl : (⟨2, 1, 5⟩ : S44) = q := by simpa using hj
        refine ⟨[.int .i64 2, .int .i64 1, .int .i64 5], rfl, k44_mk W _, fun i u hu => ?_⟩
        rw [add_plain, blk_cell h1, ← Array.getElem?_toList]
        simpa using hu
      | j + 1, hj => simp at hj
    · match i, hu with
      | 0, hu => rw [add_plain, blk_cell h2]; exact hu
      | i + 1, hu => simp at hu
  | j + 1, hj => simp [aL] at hj
theorem two_CI {W : World} {g : Nat} (hb : W.heap[g]? = some (.cells #[.int .i64 0, .int .i64 0] 3 (0, 0))) : CI W (some ⟨g, 0, none⟩) [0, 0] := by
  refine ⟨rfl, by decide, fun _ => ⟨_, rfl, fun j p hj => ?_⟩⟩
  match j, hj with
  | 0, hj =>
    obtain rfl : (0 : Int) = p := by simpa using hj
    refine ⟨[.int .i64 0], rfl, rfl, fun i u hu => ?_⟩
    match i, hu with
    | 0, hu => rw [add_plain, blk_cell hb]; exact hu
    | i + 1, hu => simp at hu
  | 1, hj =>
    obtain rfl : (0 : Int) = p := by simpa using hj
    refine ⟨[.int .i64 0], rfl, rfl, fun i u hu => ?_⟩
    match i, hu with
    | 0, hu => rw [add_plain, blk_cell hb]; exact hu
    | i + 1, hu => simp at hu
  | j + 2, hj => simp at hj
set_option maxRecDepth 100000 in
set_option maxHeartbeats 4000000 in
theorem alive_calls (w : World) : Calls Try.prog 11 #[] w (Ret true w) := by
  have HB2 : Aside0 (Below w.heap.size w ((w.alloc (.cells #[.int .i64 2, .int .i64 1, .int .i64 5] 44)).alloc (.cells #[.slice (some ⟨w.heap.size, 0, none⟩) 1 1] 42))) := ⟨((Below.refl _ _).alloc (Nat.le_refl _) _).alloc (by simp) _⟩
  have HCT : Aside0 (CT ((w.alloc (.cells #[.int .i64 2, .int .i64 1, .int .i64 5] 44)).alloc (.cells #[.slice (some ⟨w.heap.size, 0, none⟩) 1 1] 42)) (some ⟨w.heap.size + 1, 0, none⟩) aL) := ⟨aL_CT (blk_alloc (blk_new w _) _) (by
    have h1 := blk_new (w.alloc (.cells #[.int .i64 2, .int .i64 1, .int .i64 5] 44)) (.cells #[.slice (some ⟨w.heap.size, 0, none⟩) 1 1] 42)
    rw [alloc_size] at h1
    exact h1)⟩
  have HNEW : Aside0 (∀ W, CT W (some ⟨w.heap.size + 1, 0, none⟩) aL → Calls Try.prog 15 #[.slice (some ⟨w.heap.size + 1, 0, none⟩) 1 1] W (fun e w' => ∃ a0 c0 a1 c1 a2 c2 a3 c3 a4 c4 a5 c5, e = .returned (.tuple #[.agg #[.slice a0 1 c0, .slice a1 1 c1, .slice a2 1 c2, .slice a3 4 c3, .slice a4 4 c4, .slice a5 4 c5], .int .i64 0]) ∧ SysC w' (newS aL) ⟨a0, c0, a1, c1, a2, c2, a3, c3, a4, c4, a5, c5⟩ ∧ Below W.heap.size W w')) := ⟨fun W hC => (xNew_calls (fun _ => false) (some ⟨w.heap.size + 1, 0, none⟩) 1 aL W (CT_up hC (hid_none W)) (by decide) (fun k hk => by cases hk) (by decide) (by decide)).mono (by
    rintro e w' ⟨p, rfl, hs, hb⟩
    obtain ⟨a0, c0, a1, c1, a2, c2, a3, c3, a4, c4, a5, c5⟩ := p
    rw [aL_new] at hs ⊢
    exact ⟨a0, c0, a1, c1, a2, c2, a3, c3, a4, c4, a5, c5, rfl, hs.up (hid_up _ _), hb⟩)⟩
  have HRUN : Aside0 (∀ (P : Nat → Bool) (W : World) (p : Ad) (A : Option Addr), SysC (hid P W) (newS aL) p → (∀ k, P k = true → k < W.heap.size) → CI W A [0, 0] → Calls Try.prog 9 #[.agg #[.slice p.a0 1 p.c0, .slice p.a1 1 p.c1, .slice p.a2 1 p.c2, .slice p.a3 4 p.c3, .slice p.a4 4 p.c4, .slice p.a5 4 p.c5], .slice A 2 2] W (fun e w' => ∃ n0 a0 c0 n1 a1 c1 n2 a2 c2 n3 a3 c3 a4 c4 n5 a5 c5 B d, e = .returned (.tuple #[.agg #[.slice a0 n0 c0, .slice a1 n1 c1, .slice a2 n2 c2, .slice a3 n3 c3, .slice a4 4 c4, .slice a5 n5 c5], .slice B 1 d, .int .i64 0]) ∧ CI (hid P w') a4 [0, 5, 0, 0] ∧ Below W.heap.size W w')) := ⟨fun P W p A hC hP hl => (xRun_calls P (newS aL) p A 2 [0, 0] W hC hP (new_bd (by decide) (by decide)) hl (by decide)).mono (by
    rintro e w' ⟨q, v, rfl, hs, hr, hb⟩
    have hx : xRun (newS aL) [0, 0] = runS (newS aL) [0, 0] := by unfold xRun; rw [if_pos aL_right]
    rw [hx] at hs hr ⊢
    rw [aL_right]
    have hw := aL_went
    have hce := aL_ce
    generalize runS (newS aL) [0, 0] = r at hs hr hw hce ⊢
    obtain ⟨B, d, rfl⟩ := row_slice hr
    have h4 := hs.r4
    rw [hce] at h4
    have e4 : r.1.ce.length = 4 := by rw [hce]; rfl
    obtain ⟨a0, c0, a1, c1, a2, c2, a3, c3, a4, c4, a5, c5⟩ := q
    rw [hw]
    unfold sysA
    dsimp only
    rw [e4]
    exact ⟨_, _, _, _, _, _, _, _, _, _, _, _, _, _, _, _, _, _, _, rfl, h4, hb⟩)⟩
  go_enter Try.func11, Try.ntmps11
  go_wp2_with (first
    | (go_at_call 15; refine (HNEW.out _ HCT.out).mono ?_; rintro e w3 ⟨a0, c0, a1, c1, a2, c2, a3, c3, a4, c4, a5, c5, rfl, hs, hb⟩; have HS3 := Aside0.mk hs; have HB3 := Aside0.mk (HB2.out.trans (hb.mono HB2.out.size)); clear hs hb)
    | (go_at_call 9; refine hold ?_))
  have hb4 : Below w3.heap.size w3 ((w3.alloc (.cells #[.slice a0 1 c0, .slice a1 1 c1, .slice a2 1 c2, .slice a3 4 c3, .slice a4 4 c4, .slice a5 4 c5] 26)).alloc (.cells #[.int .i64 0, .int .i64 0] 3)) := ((Below.refl _ _).alloc (Nat.le_refl _) _).alloc (by simp) _
  have hz5 := blk_alloc (blk_new w3 (.cells #[.slice a0 1 c0, .slice a1 1 c1, .slice a2 1 c2, .slice a3 4 c3, .slice a4 4 c4, .slice a5 4 c5] 26)) (.cells #[.int .i64 0, .int .i64 0] 3)
  have hl5 := blk_new (w3.alloc (.cells #[.slice a0 1 c0, .slice a1 1 c1, .slice a2 1 c2, .slice a3 4 c3, .slice a4 4 c4, .slice a5 4 c5] 26)) (.cells #[.int .i64 0, .int .i64 0] 3)
  rw [alloc_size] at hl5
  have HZ5 := Aside0.mk hz5
  have HB4 := Aside0.mk hb4
  refine ⟨(HRUN.out (fun k => k == w3.heap.size) _ ⟨a0, c0, a1, c1, a2, c2, a3, c3, a4, c4, a5, c5⟩ _ (HS3.out.up (up_new hb4 (fun k hk => by have := beq_iff_eq.1 hk; omega))) (fun k hk => by have := beq_iff_eq.1 hk; subst this; exact blk_lt hz5) (two_CI hl5)).mono ?_⟩
  clear hb4 hz5 hl5
  generalize ((w3.alloc (.cells #[.slice a0 1 c0, .slice a1 1 c1, .slice a2 1 c2, .slice a3 4 c3, .slice a4 4 c4, .slice a5 4 c5] 26)).alloc (.cells #[.int .i64 0, .int .i64 0] 3)) = w4 at *
  rintro e w5 ⟨n0, e0, f0, n1, e1, f1, n2, e2, f2, n3, e3, f3, e4, f4, n5, e5, f5, B, d, rfl, h4, hb⟩
  have HZ6 := Aside0.mk (blk_below HZ5.out hb)
  have HB6 := Aside0.mk (HB3.out.trans ((HB4.out.trans (hb.mono HB4.out.size)).mono HB3.out.size))
  have HGE : Aside0 (w.heap.size ≤ w3.heap.size) := ⟨HB3.out.size⟩
  have HH := Aside0.mk h4
  clear hb h4 HZ5 HB4
  have HH7 := Aside0.mk ((CI_up HH.out (hid_six (W := w5) (g := w3.heap.size) (by simp) (v0 := .slice e0 n0 f0) (v1 := .slice e1 n1 f1) (v2 := .slice e2 n2 f2) (v3 := .slice e3 n3 f3) (v4 := .slice e4 4 f4) (v5 := .slice e5 n5 f5))))
  replace HH7 := Aside0.mk (CI_up HH7.out (hid_up _ _))
  have HB7 : Aside0 (Below w.heap.size w ((((((w5.setCell ⟨w3.heap.size, 0, none⟩ (.slice e0 n0 f0)).setCell ⟨w3.heap.size, 1, none⟩ (.slice e1 n1 f1)).setCell ⟨w3.heap.size, 2, none⟩ (.slice e2 n2 f2)).setCell ⟨w3.heap.size, 3, none⟩ (.slice e3 n3 f3)).setCell ⟨w3.heap.size, 4, none⟩ (.slice e4 4 f4)).setCell ⟨w3.heap.size, 5, none⟩ (.slice e5 n5 f5))) := ⟨below_six HB6.out HGE.out⟩
  obtain ⟨q0, q1, q2, q3, q4, q5⟩ := six_cells HZ6.out
  obtain ⟨x0, x1, x2, x3, x4, x5⟩ := six_frozen HZ6.out
  go_wp2
  clear q0 q1 q2 q3 q4 q5 x0 x1 x2 x3 x4 x5 HZ6 HB6 HH
  generalize ((((((w5.setCell ⟨w3.heap.size, 0, none⟩ (.slice e0 n0 f0)).setCell ⟨w3.heap.size, 1, none⟩ (.slice e1 n1 f1)).setCell ⟨w3.heap.size, 2, none⟩ (.slice e2 n2 f2)).setCell ⟨w3.heap.size, 3, none⟩ (.slice e3 n3 f3)).setCell ⟨w3.heap.size, 4, none⟩ (.slice e4 4 f4)).setCell ⟨w3.heap.size, 5, none⟩ (.slice e5 n5 f5)) = w7 at *
  obtain ⟨ad, rfl, t0⟩ := Kd.at_int HH7.out (1 : Int) (by decide) (by decide)
  have hrd : rd ([0, 5, 0, 0] : List Int) 1 = 5 := rfl
  have ht1 : (1 : Int).toNat = 1 := rfl
  rw [hrd, ht1] at t0
  have t1 : w7.cell? ⟨ad.block, ad.off + 1, none⟩ = some (.int .i64 5) := by
    have h1 := add_field ad 0 1 (by omega)
    rw [show ad.add 0 = ad by simp [Addr.add]] at h1
    rw [← t0, ← h1]
  clear hrd ht1 t0
  go_simp
  go_wp2
  go_ret
  exact ⟨rfl, HB7.out⟩
end Go.Proofs.Ythnimpbcfegmjaa.Own
/-
  Plain: what the printed Same, Numbers, Contains answer at what is the same; runs in parts.
-/
namespace Go.Proofs.Ythnimpbcfegmjaa.Own
open Go.RowKit Go.Proofs.YthnimpbcfegmjaaW.PrintWords Go.Proofs.YthnimpbcfegmjaaW.PrintLast Go.Proofs.YthnimpbcfegmjaaW.PrintMore Go.Proofs.Ythnimpbcfegmjaa.P Go.Proofs.Ythnimpbcfegmjaa.Model
set_option linter.unusedVariables false
set_option linter.unusedSimpArgs false

theorem wr1 {i : Nat} (h : i ≤ 1000000) : wrap64 ((i : Int) + 1) = ((i + 1 : Nat) : Int) := by unfold wrap64; omega
theorem num_loop (l : List Int) (hl : l.length ≤ 1000) : ∀ (n i k : Nat), n = l.length - i → i ≤ l.length → n < k → downpourref01_Numbers.l0 k l l (l.length : Int) (i : Int) = some true := by
  intro n
  induction n with
  | zero =>
    intro i k hn hi hk
    obtain ⟨k, rfl⟩ : ∃ k', k = k' + 1 := ⟨k - 1, by omega⟩
    unfold downpourref01_Numbers.l0
    rw [if_neg (by omega)]
  | succ n ih =>
    intro i k hn hi hk
    obtain ⟨k, rfl⟩ : ∃ k', k = k' + 1 := ⟨k - 1, by omega⟩
    unfold downpourref01_Numbers.l0
    rw [if_pos (by omega), if_pos (by omega), if_pos (by omega), if_pos (by omega), if_pos rfl, wr1 (by omega)]
    exact ih (i + 1) k (by omega) (by omega) (by omega)
theorem num_refl (l : List Int) (hl : l.length ≤ 1000) (k : Nat) (hk : l.length < k) : downpourref01_Numbers.f k l l = some true := by
  unfold downpourref01_Numbers.f
  rw [if_pos rfl]
  exact num_loop l hl l.length 0 k rfl (Nat.zero_le _) hk
theorem ins_loop (l : List S44) (hl : l.length ≤ 1000) : ∀ (n i k : Nat), n = l.length - i → i ≤ l.length → n < k → downpourref20_instrs.l0 k l l (l.length : Int) (i : Int) = some true := by
  intro n
  induction n with
  | zero =>
    intro i k hn hi hk
    obtain ⟨k, rfl⟩ : ∃ k', k = k' + 1 := ⟨k - 1, by omega⟩
    unfold downpourref20_instrs.l0
    rw [if_neg (by omega)]
  | succ n ih =>
    intro i k hn hi hk
    obtain ⟨k, rfl⟩ : ∃ k', k = k' + 1 := ⟨k - 1, by omega⟩
    unfold downpourref20_instrs.l0
    rw [if_pos (by omega), if_pos (by omega), if_pos (by omega), if_pos (by omega), if_neg (by simp), wr1 (by omega)]
    exact ih (i + 1) k (by omega) (by omega) (by omega)
theorem ins_refl (l : List S44) (hl : l.length ≤ 1000) (k : Nat) (hk : l.length < k) : downpourref20_instrs.f k l l = some true := by
  unfold downpourref20_instrs.f
  rw [if_pos rfl]
  exact ins_loop l hl l.length 0 k rfl (Nat.zero_le _) hk
theorem same_l1 (s : Syst) (h : Bd s) : ∀ (n i k : Nat), n = s.ch.length - i → i ≤ s.ch.length → n + 200 < k → downpourref20_Same.l1 k (s.ch.length : Int) (i : Int) s.th s.at_ s.su s.lo s.ce s.ch s.th s.at_ s.su s.lo s.ce s.ch = some true := by
  intro n
  induction n with
  | zero =>
    intro i k hn hi hk
    obtain ⟨k, rfl⟩ : ∃ k', k = k' + 1 := ⟨k - 1, by omega⟩
    unfold downpourref20_Same.l1
    have h1 := h.n1
    have h2 := h.n2
    have h3 := h.n3
    have h4 := h.n4
    rw [if_neg (by omega), num_refl s.at_ (by omega) k (by omega), Option.bind_some, if_pos rfl, num_refl s.su (by omega) k (by omega), Option.bind_some, if_pos rfl, num_refl s.lo (by omega) k (by omega), Option.bind_some, if_pos rfl, num_refl s.ce (by omega) k (by omega), Option.bind_some]
  | succ n ih =>
    intro i k hn hi hk
    obtain ⟨k, rfl⟩ : ∃ k', k = k' + 1 := ⟨k - 1, by omega⟩
    unfold downpourref20_Same.l1
    have h5 := h.n5
    have hlt : i < s.ch.length := by omega
    have hrow : rd_L3 s.ch (i : Int) ∈ s.ch := by
      unfold rd_L3
      rw [Int.toNat_natCast, List.getD_eq_getElem?_getD, List.getElem?_eq_getElem hlt]
      exact List.getElem_mem hlt
    have hrl := h.c _ hrow
    rw [if_pos (by omega), if_pos (by omega), if_pos (by omega), if_pos (by omega), num_refl _ (by omega) k (by omega), Option.bind_some, if_pos rfl, wr1 (by omega)]
    exact ih (i + 1) k (by omega) (by omega) (by omega)
theorem same_l0 (s : Syst) (h : Bd s) : ∀ (n i k : Nat), n = s.th.length - i → i ≤ s.th.length → n + 400 < k → downpourref20_Same.l0 k (s.th.length : Int) (i : Int) s.th s.at_ s.su s.lo s.ce s.ch s.th s.at_ s.su s.lo s.ce s.ch = some true := by
  intro n
  induction n with
  | zero =>
    intro i k hn hi hk
    obtain ⟨k, rfl⟩ : ∃ k', k = k' + 1 := ⟨k - 1, by omega⟩
    unfold downpourref20_Same.l0
    rw [if_neg (by omega)]
    exact same_l1 s h s.ch.length 0 k rfl (Nat.zero_le _) (by have := h.n5; omega)
  | succ n ih =>
    intro i k hn hi hk
    obtain ⟨k, rfl⟩ : ∃ k', k = k' + 1 := ⟨k - 1, by omega⟩
    unfold downpourref20_Same.l0
    have h5 := h.n0
    have hlt : i < s.th.length := by omega
    have hrow : rd_L2 s.th (i : Int) ∈ s.th := by
      unfold rd_L2
      rw [Int.toNat_natCast, List.getD_eq_getElem?_getD, List.getElem?_eq_getElem hlt]
      exact List.getElem_mem hlt
    have hrl := h.t _ hrow
    rw [if_pos (by omega), if_pos (by omega), if_pos (by omega), if_pos (by omega), ins_refl _ (by omega) k (by omega), Option.bind_some, if_pos rfl, wr1 (by omega)]
    exact ih (i + 1) k (by omega) (by omega) (by omega)
theorem same_refl (s : Syst) (h : Bd s) : downpourref20_Same.f 1000 s.th s.at_ s.su s.lo s.ce s.ch s.th s.at_ s.su s.lo s.ce s.ch = some true := by
  unfold downpourref20_Same.f
  rw [if_pos rfl, bne_self_eq_false]
  have hj : ∀ k, downpourref20_Same.j0 (k + 1) false s.th s.at_ s.su s.lo s.ce s.ch s.th s.at_ s.su s.lo s.ce s.ch = downpourref20_Same.l0 k (s.th.length : Int) 0 s.th s.at_ s.su s.lo s.ce s.ch s.th s.at_ s.su s.lo s.ce s.ch := fun k => by
    simp [downpourref20_Same.j0]
  exact (hj 999).trans (same_l0 s h s.th.length 0 _ rfl (Nat.zero_le _) (by have := h.n0; omega))
theorem shp_bd {s : Syst} (h : Shp s) : Bd s := by
  have h1 := h.n
  have h2 := h.at_
  have h3 := h.su
  have h4 := h.lo
  have h5 := h.ce
  have h6 := h.ch
  refine ⟨by omega, by omega, by omega, by omega, by omega, by omega, fun t ht => ?_, fun t ht => ?_⟩
  · obtain ⟨j, hj⟩ := List.mem_iff_getElem?.1 ht
    have hlt := (List.getElem?_eq_some_iff.1 hj).1
    have := (h.th j t _ hj (List.getElem?_eq_getElem (by omega))).1
    omega
  · have := h.chs t ht
    omega
theorem few_bd (s : Syst) : Bd (fewS s) := by
  refine ⟨?_, ?_, ?_, ?_, ?_, ?_, fun t ht => ?_, fun t ht => ?_⟩
  · show (rowsL s.th).length ≤ 100; have := rowsL_len s.th; omega
  · show (cut12 s.at_).length ≤ 100; rw [cut12_len]; omega
  · show (cut12 s.su).length ≤ 100; rw [cut12_len]; omega
  · show (cut12 s.lo).length ≤ 100; rw [cut12_len]; omega
  · show (cut12 s.ce).length ≤ 100; rw [cut12_len]; omega
  · show ((s.ch.take 6).map cut12).length ≤ 100; rw [List.length_map, List.length_take]; omega
  · have ht2 : t ∈ (s.th.take 10).map (fun t => t.take 18) := ht
    obtain ⟨y, -, rfl⟩ := List.mem_map.1 ht2
    rw [List.length_take]; omega
  · have ht2 : t ∈ (s.ch.take 6).map cut12 := ht
    obtain ⟨y, -, rfl⟩ := List.mem_map.1 ht2
    rw [cut12_len]; omega
theorem pick1_acc (s : Syst) (w w0 : List Int) (q : Int) : pick1 (s, w0 ++ w) q = ((pick1 (s, w) q).1, w0 ++ (pick1 (s, w) q).2) := by
  unfold pick1
  dsimp only
  split
  · rfl
  · simp
theorem fold_acc (l : List Int) : ∀ (s : Syst) (w w0 : List Int), l.foldl pick1 (s, w0 ++ w) = ((l.foldl pick1 (s, w)).1, w0 ++ (l.foldl pick1 (s, w)).2) := by
  induction l with
  | nil => intro s w w0; rfl
  | cons q l ih =>
    intro s w w0
    rw [List.foldl_cons, List.foldl_cons, pick1_acc]
    exact ih (pick1 (s, w) q).1 (pick1 (s, w) q).2 w0
theorem runS_append (s : Syst) (l m : List Int) : runS s (l ++ m) = ((runS (runS s l).1 m).1, (runS s l).2 ++ (runS (runS s l).1 m).2) := by
  unfold runS
  rw [List.foldl_append]
  have h := fold_acc m (l.foldl pick1 (s, [])).1 [] (l.foldl pick1 (s, [])).2
  rw [List.append_nil] at h
  exact h
/-- Behind steps of these threads. -/
def goS (s : Syst) (w : List Int) : Syst := w.foldl (fun s t => stepN s t.toNat) s
structure Went (s : Syst) (r : Syst × List Int) : Prop where
  go : goS s r.2 = r.1
  can : ∀ (j : Nat) (t : Int), r.2[j]? = some t → t ∈ enL (goS s (r.2.take j))
theorem went_pick {s : Syst} {r : Syst × List Int} (h : Went s r) (q : Int) : Went s (pick1 r q) := by
  by_cases he : enL r.1 = []
  · rw [pick1_stop he]; exact h
  · rw [pick1_go he]
    refine ⟨?_, fun j t hj => ?_⟩
    · show goS s (r.2 ++ [_]) = _
      unfold goS
      rw [List.foldl_append]
      show stepN (goS s r.2) _ = _
      rw [h.go]
      rfl
    · dsimp only at hj ⊢
      by_cases hlt : j < r.2.length
      · rw [List.getElem?_append_left hlt] at hj
        rw [List.take_append_of_le_length (by omega)]
        exact h.can j t hj
      · rw [List.getElem?_append_right (by omega)] at hj
        have hj0 : j - r.2.length = 0 := by
          have := (List.getElem?_eq_some_iff.1 hj).1
          simp at this
          omega
        rw [hj0] at hj
        have ht : (pickT r.1 q : Int) = t := by simpa using hj
        have e : j = r.2.length := by omega
        subst e
        rw [List.take_left', h.go, ← ht]
        · exact (pickT_mem q he).1
        · rfl
theorem went_run (s : Syst) (l : List Int) : Went s (runS s l) := by
  have : ∀ (l : List Int) (r : Syst × List Int), Went s r → Went s (l.foldl pick1 r) := by
    intro l
    induction l with
    | nil => intro r h; exact h
    | cons q l ih => intro r h; exact ih _ (went_pick h q)
  exact this l _ ⟨rfl, fun j t hj => by simp at hj⟩
theorem goS_succ {s : Syst} {w : List Int} {j : Nat} {t : Int} (h : w[j]? = some t) : goS s (w.take (j + 1)) = stepN (goS s (w.take j)) t.toNat := by
  unfold goS
  rw [List.take_add_one, h, List.foldl_append]
  rfl
theorem goS_shp {s : Syst} {l : List Int} (hS : Shp s) : ∀ j, j ≤ (runS s l).2.length → Shp (goS s ((runS s l).2.take j)) := by
  intro j
  induction j with
  | zero => intro _; exact hS
  | succ j ih =>
    intro hj
    obtain ⟨t, ht⟩ : ∃ t, (runS s l).2[j]? = some t := ⟨_, List.getElem?_eq_getElem (by omega)⟩
    rw [goS_succ ht]
    obtain ⟨n, e, h1, h2⟩ := mem_enL ((went_run s l).can j t ht)
    subst e
    exact stepN_shp (ih (by omega)) (by simpa using h2)
theorem xStep_of {s : Syst} {t : Int} (hr : rightB s = true) (ht : t ∈ enL s) : xStep s t = (stepN s t.toNat, 0) := by
  obtain ⟨n, e, h1, h2⟩ := mem_enL ht
  subst e
  unfold xStep
  rw [hr, if_neg (by decide), if_neg, if_neg]
  · rw [Int.toNat_natCast, h2]; decide
  · simp [inB]
    omega
end Go.Proofs.Ythnimpbcfegmjaa.Own

/-
  slices.Repeat at ([-1], 4), walked by hand.
-/
import Derived.Test.YthnimpbcfegmjaaS16
import Derived.Test.YthnimpbcfegmjaaPx7
import Derived.Deep.RegionLaw
import Derived.Laws.CopyOwn
namespace Go.Proofs.Ythnimpbcfegmjaa.Own
open Go.RowKit Go.Proofs.YthnimpbcfegmjaaW.PrintWords Go.Proofs.YthnimpbcfegmjaaW.PrintLast Go.Proofs.YthnimpbcfegmjaaW.PrintMore Go.Proofs.Ythnimpbcfegmjaa.P Go.Proofs.Ythnimpbcfegmjaa.Model
set_option linter.unusedVariables false
set_option linter.unusedSimpArgs false

def m1 : Value := .int .i64 (-1)
def o0 : Value := .int .i64 0
def repL (j : Nat) : List Value := if j = 1 then [m1, o0, o0, o0] else if j = 2 then [m1, m1, o0, o0] else [m1, m1, m1, m1]
theorem mul_four : bits_Mul.f 1 4 = some (0, 4) := by decide +kernel
theorem copy_row {W : World} {g k off : Nat} {L : List Value} (hb : W.heap[g]? = some (.cells L.toArray 3 (0, 0))) (j : Nat) (v : Value) (hj : (L.take k)[j]? = some v) : W.cell? ((⟨g, 0, none⟩ : Addr).add j) = some v := by
  rw [add_plain, blk_cell hb]
  rw [List.getElem?_take] at hj
  split at hj
  · simpa using hj
  · cases hj
theorem hsz3 : (Try.prog.info? 3).map (·.size) = some 1 := by kernel_rfl
theorem cp0 {W : World} {g : Nat} {ad : Addr} (hb : W.heap[g]? = some (.cells #[o0, o0, o0, o0] 3 (0, 0))) (hs : W.cell? ad = some m1) : (Builtin.copy_ #[23, 23] 3 #[.slice (some ⟨g, 0, none⟩) 4 4, .slice (some ad) 1 1]).run Try.prog W = .ok (goInt 1) (W.setRow g #[m1, o0, o0, o0]) :=
  run_copy_row Try.prog W 23 23 3 3 g 0 4 4 ad 1 1 #[o0, o0, o0, o0] 3 [m1] Try.underlying23 hsz3 hb rfl (fun j v hj => by
    match j, hj with
    | 0, hj => simp at hj; rw [show ad.add 0 = ad by simp [Addr.add], hs, hj]
    | j + 1, hj => simp at hj) (by decide) (fun v hv => by simp at hv; subst hv; rfl)
theorem cp1 {W : World} {g : Nat} (hb : W.heap[g]? = some (.cells #[m1, o0, o0, o0] 3 (0, 0))) : (Builtin.copy_ #[23, 23] 3 #[.slice (some ⟨g, 1, none⟩) 3 3, .slice (some ⟨g, 0, none⟩) 1 4]).run Try.prog W = .ok (goInt 1) (W.setRow g #[m1, m1, o0, o0]) :=
  run_copy_row Try.prog W 23 23 3 3 g 1 3 3 ⟨g, 0, none⟩ 1 4 #[m1, o0, o0, o0] 3 [m1] Try.underlying23 hsz3 hb rfl (fun j v hj => by
    match j, hj with
    | 0, hj => rw [add_plain, blk_cell hb]; exact hj
    | j + 1, hj => simp at hj) (by decide) (fun v hv => by simp at hv; subst hv; rfl)
theorem cp2 {W : World} {g : Nat} (hb : W.heap[g]? = some (.cells #[m1, m1, o0, o0] 3 (0, 0))) : (Builtin.copy_ #[23, 23] 3 #[.slice (some ⟨g, 2, none⟩) 2 2, .slice (some ⟨g, 0, none⟩) 2 4]).run Try.prog W = .ok (goInt 2) (W.setRow g #[m1, m1, m1, m1]) :=
  run_copy_row Try.prog W 23 23 3 3 g 2 2 2 ⟨g, 0, none⟩ 2 4 #[m1, m1, o0, o0] 3 [m1, m1] Try.underlying23 hsz3 hb rfl (fun j v hj => by
    match j, hj with
    | 0, hj => rw [add_plain, blk_cell hb]; exact hj
    | 1, hj => rw [add_plain, blk_cell hb]; exact hj
    | j + 2, hj => simp at hj) (by decide) (fun v hv => by simp at hv; subst hv; rfl)
def RepP (w : World) (e : Ending) (w' : World) : Prop := ∃ v, e = .returned v ∧ RowI w' w.heap.size v [-1, -1, -1, -1] ∧ Below w.heap.size w w'
set_option maxRecDepth 100000 in
set_option maxHeartbeats 4000000 in
theorem repeat_calls (ad : Addr) (w : World) (hC : w.cell? ad = some (.int .i64 (-1))) : Calls Try.prog 37 #[.slice (some ad) 1 1, .int .i64 4] w (RepP w) := by
  obtain ⟨i, hi, hz0, hz1, hz2⟩ := info_parts info3
  have qk : ∀ W : World, (Instr.makeSlice 23 (.int .i64 4) (.int .i64 4)).run Try.prog W = .ok (.slice (some ⟨W.heap.size, 0, none⟩) 4 4) (W.alloc (.cells (madeCells #[.int .i64 0] 4) 3)) := fun W => run_make_row' (P := Try.prog) 23 3 (.int .i64 0) 8 Try.underlying23 info3 rfl .i64 .i64 4 (by decide) (by decide) W
  have hm : (madeCells #[Value.int IntKind.i64 0] 4) = #[o0, o0, o0, o0] := by
    apply Array.toList_inj.1
    rw [toList_madeCells_one]
    rfl
  rw [hm] at qk
  have HC := Aside0.mk hC
  clear hC hm
  go_enter Try.func37, Try.ntmps37
  go_wp2_with (first | (go_at_call 60; refine (bits_Mul.calls 1 4 0 4 _ mul_four).mono ?_; rintro e w1 ⟨rfl, hd⟩; have HD := Aside0.mk hd.below; have HN0 := Aside0.mk (blk_new w1 (.cells #[o0, o0, o0, o0] 3)); have hcp := cp0 (ad := ad) HN0.out (pw_cell_below ((Below.refl _ _).alloc (Nat.le_refl _) _) (pw_cell_below hd.below HC.out)); clear hd))
  have HN1 : Aside0 (((w1.alloc (.cells #[o0, o0, o0, o0] 3)).setRow w1.heap.size #[m1, o0, o0, o0]).heap[w1.heap.size]? = some (.cells #[m1, o0, o0, o0] 3 (0, 0))) := ⟨setRow_heap _ _ _ _ _ _ HN0.out⟩
  have HB1 : Aside0 (Below w.heap.size w ((w1.alloc (.cells #[o0, o0, o0, o0] 3)).setRow w1.heap.size #[m1, o0, o0, o0])) := ⟨below_setRow (HD.out.alloc HD.out.size _) HD.out.size _⟩
  have HGE : Aside0 (w.heap.size ≤ w1.heap.size) := ⟨HD.out.size⟩
  clear HN0 HD
  generalize (w1.alloc (.cells #[o0, o0, o0, o0] 3)).setRow w1.heap.size #[m1, o0, o0, o0] = w2 at *
  generalize w1.heap.size = g at *
  go_loopw [8] (fun v8 W => ∃ j : Nat, (j = 1 ∨ j = 2 ∨ j = 4) ∧ v8 = .int .i64 j ∧ Aside0 (W.heap[g]? = some (.cells (repL j).toArray 3 (0, 0))) ∧ Aside0 (Below w.heap.size w W)) (fun v8 _ => 4 - (intOf v8).toNat)
  case atStart => exact ⟨1, .inl rfl, rfl, HN1, HB1⟩
  case round => as_aux_lemma =>
    clear HB1 HN1
    obtain ⟨j, hj, rfl, HN, HB⟩ := hrel
    rcases hj with rfl | rfl | rfl
    · have q1 := cut_from (P := Try.prog) 23 3 .i64 Try.underlying23 hi 1 hz1 (some ⟨g, 0, none⟩) 4 4 1 (by decide) (by decide)
      have q2 := cut_to (P := Try.prog) 23 3 .i64 Try.underlying23 hi (some ⟨g, 0, none⟩) 4 4 1 (by decide) (by decide) (by decide)
      have HN' : wr.drew.heap[g]? = some (.cells #[m1, o0, o0, o0] 3 (0, 0)) := HN.out
      have hcp := cp1 HN'
      have HN2 : Aside0 ((wr.drew.setRow g #[m1, m1, o0, o0]).heap[g]? = some (.cells #[m1, m1, o0, o0] 3 (0, 0))) := ⟨setRow_heap _ _ _ _ _ _ HN'⟩
      have HB2 := Aside0.mk (below_setRow (below_drew HB.out) HGE.out #[m1, m1, o0, o0])
      clear HN'
      go_wp2
      go_region
      clear hcp
      generalize wr.drew.setRow g #[m1, m1, o0, o0] = w3 at *
      go_wp2
      go_roundw
      case rel => exact ⟨2, .inr (.inl rfl), by go_num, HN2, HB2⟩
      case measure => simp [intOf]
    · have q1 := cut_from (P := Try.prog) 23 3 .i64 Try.underlying23 hi 1 hz1 (some ⟨g, 0, none⟩) 4 4 2 (by decide) (by decide)
      have q2 := cut_to (P := Try.prog) 23 3 .i64 Try.underlying23 hi (some ⟨g, 0, none⟩) 4 4 2 (by decide) (by decide) (by decide)
      have HN' : wr.drew.heap[g]? = some (.cells #[m1, m1, o0, o0] 3 (0, 0)) := HN.out
      have hcp := cp2 HN'
      have HN2 : Aside0 ((wr.drew.setRow g #[m1, m1, m1, m1]).heap[g]? = some (.cells #[m1, m1, m1, m1] 3 (0, 0))) := ⟨setRow_heap _ _ _ _ _ _ HN'⟩
      have HB2 := Aside0.mk (below_setRow (below_drew HB.out) HGE.out #[m1, m1, m1, m1])
      clear HN'
      go_wp2
      go_region
      clear hcp
      generalize wr.drew.setRow g #[m1, m1, m1, m1] = w3 at *
      go_wp2
      go_roundw
      case rel => exact ⟨4, .inr (.inr rfl), by go_num, HN2, HB2⟩
      case measure => simp [intOf]
    · go_wp2
      go_ret
      exact ⟨_, rfl, ⟨by rfl, .inr ⟨g, 4, #[m1, m1, m1, m1], rfl, HGE.out, HN.out, by decide, by decide, rfl, rfl⟩⟩, HB.out⟩
end Go.Proofs.Ythnimpbcfegmjaa.Own

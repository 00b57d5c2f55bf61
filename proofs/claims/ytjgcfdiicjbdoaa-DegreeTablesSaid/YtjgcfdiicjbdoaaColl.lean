/-
  slices.AppendSeq over degree.weights, by hand.
-/
import Derived.Test.YtjgcfdiicjbdoaaTable
namespace Go.Proofs.Ytjgcfdiicjbdoaa.Pure
open Go.RowKit Go.Shelf Go.Proofs.YtjgcfdiicjbdoaaW.PrintWords Go.Proofs.YtjgcfdiicjbdoaaW.PrintLast Go.Proofs.Ytjgcfdiicjbdoaa.Own Go.Proofs.Ytjgcfdiicjbdoaa.P
attribute [local go_sem] Oper.semAt_some

set_option maxRecDepth 100000 in
set_option maxHeartbeats 4000000 in
theorem appendSeq_in (n : Nat) (hn : 3 ≤ n) (k t : Nat) (hk1 : 1 ≤ k) (hk2 : k ≤ 64) (ht : degree_root.f 17 k = some (t : Int)) (it : IsRoot k t) (w : World) (Bn : Nat) (hBn : Bn < w.heap.size)
    (hcn : w.cell? ⟨Bn, 0, none⟩ = some (.int .i64 k)) :
    CallsIn W0 n Try.prog 25 #[.slice none 0 0, .func (.func 26) #[] #[.pointer (some ⟨Bn, 0, none⟩)]] w fun e W' => ∃ v, e = .returned v ∧
      W'.ownsRow w.heap.size 23 1 v k ((wl k t).map (Value.int .u64)) ∧ Below w.heap.size w W' := by
  have h1 : 1 ≤ n := by omega
  obtain ⟨i0, hi, hz0, hz1, hz2⟩ := info_parts info23
  refine callsIn_of_wp_marks Try.func25 rfl trivial ?_ rfl
  simp only [Try.ntmps25, List.size_toArray, List.length_cons, List.length_nil, Nat.reduceAdd, Nat.reduceSub, Array.replicate_succ, Array.replicate_zero, List.push_toArray, List.append_toArray, List.nil_append, List.cons_append]
  gi_wp2
  have bO := Boxed.new w 22 (.slice none 0 0)
  have hB0 : Below w.heap.size w (w.alloc (.cells #[.slice none 0 0] 22)) := (Below.refl _ w).alloc (Nat.le_refl _) _
  refine wpIn_rangeFunc_ownG rfl h1 (gf := 26) (lb := #[.pointer (some ⟨Bn, 0, none⟩)]) rfl trivial (enters_of Try.func26 (by kernel_rfl) rfl)
    (iter_stops (n - 1) (by omega) Bn w.heap.size k t hk1 hk2 ht it _ (by simp; omega) ((hB0.cell (p := ⟨Bn, 0, none⟩) hBn).trans hcn)) belowK_t (belowK_b (by simp)) (Below.refl _ _) (fun _ => rfl)
    (fun pre W => (∃ v, Boxed W w.heap.size 22 v ∧ W.ownsRow w.heap.size 23 1 v pre.length (pre.map (Value.int .u64)) ∧ True) ∧ Below w.heap.size w W)
    (fun _ _ _ => False)
    (OwnFrom.and (Own.from (holdsRow_own w.heap.size w.heap.size 22 23 1 (fun pre : List Int => pre.length) (fun pre => pre.map (Value.int .u64)) (fun _ _ => True)) _) (ownFrom_below (Nat.le_refl _) (by simp)))
    (fun _ _ _ _ _ hs _ _ => hs)
    ⟨⟨_, bO, World.ownsRow_nil _ _ _ _, trivial⟩, hB0⟩
    (fun x => { tmps := #[.slice none 0 0, .func (.func 26) #[] #[.pointer (some ⟨Bn, 0, none⟩)], .pointer (some ⟨w.heap.size, 0, none⟩), undef, .slice none 0 0, .int .u64 x, .func (.func 26) #[] #[.pointer (some ⟨Bn, 0, none⟩)], .int .u64 x, undef, undef, undef, undef, undef], defers := [] }) ?assign ?body ?done ?stop
  case assign =>
    intro l x W K hK
    gi_wp2
    exact hK
  case body =>
    rintro l pre x W ⟨⟨v, hv, hrow, -⟩, hB⟩ hlt
    have hlen : (wl k t).length = k := by simp [wl]
    rw [hlen] at hlt
    have hc := hv.cell
    have hWs := hv.lt
    have hBs := hB.size
    gi_wp2_with (gi_at_builtin; refine hold ?_)
    refine ⟨?_⟩
    refine wpListIn_append_own _ rfl _ _ 22 rfl w.heap.size 23 i0 (.int .u64 0) 1 8 Try.underlying22 hi hz0 hz1 hz2 rfl (by decide) _ _ _ rfl (hrow.alloc _) ⟨W.heap.size, 0, none⟩ 1 1 [.int .u64 x] rfl rfl (cell_one_new _ _ _) (by simp [Value.oneCell']) (Nat.le_trans (show _ ≤ 64 by omega) (by decide)) (by omega) (by simp; omega) ?_
    intro v' w1 hown' hgrow _
    obtain ⟨g', cap', rfl⟩ := ownsRow_succ hown'
    obtain ⟨hv1, hv2, hr2, hk2, hb2⟩ := hv.appended (by decide) hrow hB.size (Nat.le_refl _) hown' hgrow
    have hc1 := hv1.cell
    have hf1 := hv1.frozen
    gi_wp2
    exact ⟨hk2.from _, hb2, ⟨_, hv2, by simpa using hr2, trivial⟩, hB.trans hb2⟩
  case done =>
    rintro D ys W hD rfl ⟨⟨v, hv, hrow, -⟩, hB⟩ hK
    have hlen : (wl k t).length = k := by simp [wl]
    have hc := hv.cell
    gi_wp2
    rw [hlen] at hrow
    refine ⟨by simp, .inl ⟨_, _, rfl, run_takeDeferred hK, ?_⟩⟩
    refine ⟨_, results_tmp rfl _ _ _, v, rfl, ownsRow_putObj hrow _ hK rfl, hB.trans (belowK_b (w := w) (Nat.le_refl _) W D _ _ (by simp at hD; omega) hK rfl rfl)⟩
  case stop =>
    rintro D c pre W _ _ h _
    exact h.elim

set_option maxHeartbeats 4000000 in
theorem collect_in (n : Nat) (hn : 4 ≤ n) (k t : Nat) (hk1 : 1 ≤ k) (hk2 : k ≤ 64) (ht : degree_root.f 17 k = some (t : Int)) (it : IsRoot k t) (w : World) (Bn : Nat) (hBn : Bn < w.heap.size)
    (hcn : w.cell? ⟨Bn, 0, none⟩ = some (.int .i64 k)) :
    CallsIn W0 n Try.prog 22 #[.func (.func 26) #[] #[.pointer (some ⟨Bn, 0, none⟩)]] w fun e W' => ∃ v, e = .returned v ∧
      W'.ownsRow w.heap.size 23 1 v k ((wl k t).map (Value.int .u64)) ∧ Below w.heap.size w W' := by
  refine callsIn_of_wp Try.func22 rfl trivial ?_ rfl
  simp only [Try.ntmps22, List.size_toArray, List.length_cons, List.length_nil, Nat.reduceAdd, Nat.reduceSub, Array.replicate_succ, Array.replicate_zero, List.push_toArray, List.append_toArray, List.nil_append, List.cons_append]
  have h1 : 1 ≤ n := by omega
  gi_wp2_with (refine ⟨trivial, ?_⟩; gi_at_call 25; refine (appendSeq_in (n - 1) (by omega) k t hk1 hk2 ht it _ Bn hBn hcn).mono ?_; rintro e w' ⟨v, rfl, hr, hb⟩)
  go_ret
  exact ⟨v, rfl, hr, hb⟩

set_option maxHeartbeats 4000000 in
theorem weightsF_in (n : Nat) (hn : 5 ≤ n) (k t : Nat) (hk1 : 1 ≤ k) (hk2 : k ≤ 64) (ht : degree_root.f 17 k = some (t : Int)) (it : IsRoot k t) (w : World) :
    CallsIn W0 n Try.prog 12 #[.int .i64 k] w fun e W' => ∃ v, e = .returned (.tuple #[v, .int .i64 0]) ∧
      W'.ownsRow w.heap.size 23 1 v k ((wl k t).map (Value.int .u64)) ∧ Below w.heap.size w W' := by
  have h1 : 1 ≤ n := by omega
  have hsz : degree_sized.f k = some true := by unfold degree_sized.f; rw [if_pos (by omega), decide_eq_true (by omega)]
  refine callsIn_of_wp Try.func12 rfl trivial ?_ rfl
  simp only [Try.ntmps12, List.size_toArray, List.length_cons, List.length_nil, Nat.reduceAdd, Nat.reduceSub, Array.replicate_succ, Array.replicate_zero, List.push_toArray, List.append_toArray, List.nil_append, List.cons_append]
  gi_wp2_with (refine ⟨trivial, ?_⟩; first
    | (gi_at_call 21; refine (callsIn_wide.2 (degree_sized.calls k true _ hsz)).mono ?_; rintro e w' ⟨rfl, ⟨nd, rfl⟩⟩)
    | (gi_at_call 23; refine (weights_in W0 (n - 1) trivial rfl k _).mono ?_; rintro e w' ⟨rfl, rfl⟩)
    | (gi_at_call 22; refine (collect_in (n - 1) (by omega) k t hk1 hk2 ht it _ _ (by simp) (World.cell_alloc_new _ _ _)).mono ?_; rintro e w' ⟨v, rfl, hr, hb⟩))
  have bN : Boxed ((w.drewN nd).alloc (.cells #[.int .i64 k] 3)) w.heap.size 3 (.int .i64 k) := Boxed.new (w.drewN nd) 3 (.int .i64 k)
  have hB : Below w.heap.size w ((w.drewN nd).alloc (.cells #[.int .i64 k] 3)) := ((Drawn0.mk ⟨nd, rfl⟩ : Drawn0 w (w.drewN nd)).below).alloc (Nat.le_refl _) _
  refine ⟨trivial, (collect_in (n - 1) (by omega) k t hk1 hk2 ht it _ w.heap.size (by simp) bN.cell).mono ?_⟩
  rintro e w' ⟨v, rfl, hr, hb⟩
  gi_wp2
  go_ret2
  exact ⟨v, rfl, ownsRow_weaken (by simp) hr, hB.trans (hb.mono (by simp))⟩

end Go.Proofs.Ytjgcfdiicjbdoaa.Pure

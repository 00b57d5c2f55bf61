/-
  sched.enabled, walked by hand.
-/
import Derived.Test.YthnimpbcfegmjaaS5
namespace Go.Proofs.Ythnimpbcfegmjaa.Own
open Go.RowKit Go.Proofs.YthnimpbcfegmjaaW.PrintWords Go.Proofs.YthnimpbcfegmjaaW.PrintLast Go.Proofs.YthnimpbcfegmjaaW.PrintMore Go.Proofs.Ythnimpbcfegmjaa.P Go.Proofs.Ythnimpbcfegmjaa.Model
set_option linter.unusedVariables false

theorem one_CI {w : World} {g : Nat} {x : Int} (hb : w.heap[g]? = some (.cells #[.int .i64 x] 3 (0, 0))) : CI w (some ⟨g, 0, none⟩) [x] := by
  refine ⟨rfl, by simp, fun _ => ⟨_, rfl, fun j p hj => ?_⟩⟩
  match j, hj with
  | 0, hj =>
    obtain rfl : x = p := by simpa using hj
    refine ⟨[.int .i64 x], rfl, rfl, fun i u hu => ?_⟩
    match i, hu with
    | 0, hu => rw [add_plain, blk_cell hb]; exact hu
  | j + 1, hj => simp at hj
def enTo (s : Syst) (k : Nat) : List Int := ((List.range k).filter (canB s)).map (fun t : Nat => (t : Int))
theorem enTo_yes {s : Syst} {k : Nat} (h : canB s k = true) : enTo s (k + 1) = enTo s k ++ [(k : Int)] := by
  unfold enTo; rw [List.range_succ, List.filter_append, List.map_append]; simp [h]
theorem enTo_no {s : Syst} {k : Nat} (h : canB s k = false) : enTo s (k + 1) = enTo s k := by
  unfold enTo; rw [List.range_succ, List.filter_append, List.map_append]; simp [h]
theorem enTo_length (s : Syst) (k : Nat) : (enTo s k).length ≤ k := by
  unfold enTo; rw [List.length_map]; exact Nat.le_trans (List.length_filter_le _ _) (by simp)
def EnP (s : Syst) (w : World) (e : Ending) (w' : World) : Prop := ∃ v, e = .returned v ∧ RowI w' w.heap.size v (enL s) ∧ Below w.heap.size w w'
set_option maxRecDepth 100000 in
set_option maxHeartbeats 4000000 in
theorem enabled_calls (s : Syst) (p : Ad) (w : World) (hC : SysC w s p) (hS : Shp s) : Calls Try.prog 32 #[.agg (sysA s p)] w (EnP s w) := by
  have hB1 : Below w.heap.size w (w.alloc (.cells (sysA s p) 26)) := (Below.refl _ _).alloc (Nat.le_refl _) _
  have HB1 := Aside0.mk hB1
  have HC1 := Aside0.mk (hC.below hB1)
  have HS := Aside0.mk hS
  have hn8 := hS.n
  have HB0 : Aside0 (Below (w.alloc (.cells (sysA s p) 26)).heap.size (w.alloc (.cells (sysA s p) 26)) (w.alloc (.cells (sysA s p) 26))) := ⟨Below.refl _ _⟩
  have HG := Aside0.mk (blk_new w (.cells (sysA s p) 26))
  have HP : Aside0 (∀ (W : World) (t : Nat), SysC W s p → t < s.th.length → Calls Try.prog 52 #[.agg (sysA s p), .int .i64 t] W (Ret (canB s t) W)) := ⟨fun W t h ht => can_calls s p t W h hS ht⟩
  have hD : ∀ W, SysC W s p = SysC W s p := fun _ => rfl
  obtain ⟨a0, c0, a1, c1, a2, c2, a3, c3, a4, c4, a5, c5⟩ := p
  unfold sysA at *
  dsimp only at *
  clear hD hC hS hB1
  go_enter Try.func32, Try.ntmps32
  go_wp2
  generalize w.alloc (.cells #[.slice a0 s.th.length c0, .slice a1 s.at_.length c1, .slice a2 s.su.length c2, .slice a3 s.lo.length c3, .slice a4 s.ce.length c4, .slice a5 s.ch.length c5] 26) = w1 at *
  go_loopw [3, 8] (fun v3 v8 W => ∃ k : Nat, k ≤ s.th.length ∧ v8 = .int .i64 k ∧ Aside0 (RowI W w1.heap.size v3 (enTo s k)) ∧ Aside0 (Below w1.heap.size w1 W)) (fun _ v8 _ => s.th.length - (intOf v8).toNat)
  case atStart => exact ⟨0, Nat.zero_le _, rfl, ⟨World.ownsRow_nil _ _ _ _⟩, HB0⟩
  case round => as_aux_lemma =>
    clear HB0
    obtain ⟨k, hk, rfl, HR, HB⟩ := hrel
    have hg := blk_below HG.out HB.out
    have q0 : wr.cell? ⟨w.heap.size, 0, none⟩ = some (.slice a0 s.th.length c0) := blk_cell hg 0
    have q1 : wr.cell? ⟨w.heap.size, 1, none⟩ = some (.slice a1 s.at_.length c1) := blk_cell hg 1
    have q2 : wr.cell? ⟨w.heap.size, 2, none⟩ = some (.slice a2 s.su.length c2) := blk_cell hg 2
    have q3 : wr.cell? ⟨w.heap.size, 3, none⟩ = some (.slice a3 s.lo.length c3) := blk_cell hg 3
    have q4 : wr.cell? ⟨w.heap.size, 4, none⟩ = some (.slice a4 s.ce.length c4) := blk_cell hg 4
    have q5 : wr.cell? ⟨w.heap.size, 5, none⟩ = some (.slice a5 s.ch.length c5) := blk_cell hg 5
    clear hg
    by_cases hlt : k < s.th.length
    · have HCk := Aside0.mk (HC1.out.below HB.out)
      cases hcan : canB s k with
      | true =>
        have HCAN := Aside0.mk hcan
        have HE := Aside0.mk (enTo_yes hcan)
        have hle := enTo_length s k
        have HLE : Aside0 ((enTo s k).length + 1 ≤ 1000000) := ⟨by omega⟩
        clear hcan hle
        go_wp2_with (first
          | (go_at_call 52; refine (HP.out _ k HCk.out hlt).mono ?_; rintro e w2 ⟨rfl, hb⟩; rw [HCAN.out]; have HB2 := Aside0.mk (HB.out.trans (hb.mono HB.out.size)); have HR2 := Aside0.mk (below_row HR.out hb); clear hb)
          | (at_builtin; refine hold ?_))
        refine ⟨?_⟩
        refine app_ints rfl _ _ rfl w1 w1.heap.size _ _ [(k : Int)] (some ⟨w2.heap.size, 0, none⟩) 1 1 rfl rfl (below_row HR2.out ((Below.refl _ _).alloc (Nat.le_refl _) _)) (one_CI (blk_new w2 _)) (HB2.out.alloc HB2.out.size _) (HB2.out.alloc HB2.out.size _).size HLE.out ?_
        intro v1 w3 hr hb _ _
        rw [← HE.out] at hr
        have HR3 := Aside0.mk hr
        have HB3 := Aside0.mk hb
        clear hr hb HR2 HB2 HR
        go_wp2
        go_roundw
        case rel => exact ⟨k + 1, hlt, by go_num, HR3, HB3⟩
        case measure => simp [intOf]; omega
      | false =>
        have HCAN := Aside0.mk hcan
        have HE := Aside0.mk (enTo_no hcan)
        clear hcan
        go_wp2_with (go_at_call 52; refine (HP.out _ k HCk.out hlt).mono ?_; rintro e w2 ⟨rfl, hb⟩; rw [HCAN.out]; have HB2 := Aside0.mk (HB.out.trans (hb.mono HB.out.size)); have HR2 := Aside0.mk (below_row HR.out hb); clear hb)
        go_roundw
        case rel => exact ⟨k + 1, hlt, by go_num, ⟨by rw [HE.out]; exact HR2.out⟩, HB2⟩
        case measure => simp [intOf]; omega
    · obtain rfl : k = s.th.length := by omega
      go_wp2
      go_ret
      exact ⟨_, rfl, own_weaken HR.out HB1.out.size, HB1.out.trans (HB.out.mono HB1.out.size)⟩
end Go.Proofs.Ythnimpbcfegmjaa.Own

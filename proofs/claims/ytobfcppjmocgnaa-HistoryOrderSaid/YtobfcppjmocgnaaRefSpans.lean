/-
  downpourref22.Spans, walked by hand: it makes the same spans.
-/
import Derived.Test.YtobfcppjmocgnaaSps
namespace Go.Proofs.Ytobfcppjmocgnaa.Own
open Go.RowKit Go.Shelf Go.Proofs.YtobfcppjmocgnaaW.PrintWords Go.Proofs.YtobfcppjmocgnaaW.PrintLast Go.Proofs.Ytobfcppjmocgnaa.P
set_option linter.unusedVariables false

/-- The first event of a client from a place on. -/
def fromE (l : List S53) (hd : Nat → Option Addr × Nat) (m : Nat) (cl : Int) : Option E := ((evl l hd).filter (sel cl m)).head?
theorem filter_drop (l : List S53) (hd : Nat → Option Addr × Nat) (m : Nat) (cl : Int) : (evl l hd).filter (sel cl m) = ((evl l hd).drop m).filter (fun y => y.2.1.f0 == cl) := by
  conv => lhs; rw [← List.take_append_drop m (evl l hd)]
  rw [List.filter_append]
  have h1 : ((evl l hd).take m).filter (sel cl m) = [] := by
    rw [List.filter_eq_nil_iff]
    intro y hy
    obtain ⟨i, hi, rfl⟩ := List.getElem_of_mem hy
    simp [evl, sel] at hi ⊢
    omega
  have h2 : ((evl l hd).drop m).filter (sel cl m) = ((evl l hd).drop m).filter (fun y => y.2.1.f0 == cl) := by
    apply List.filter_congr
    intro y hy
    obtain ⟨i, hi, rfl⟩ := List.getElem_of_mem hy
    simp [evl, sel]
    intro _
    omega
  rw [h1, h2, List.nil_append]
theorem from_step {l : List S53} {hd : Nat → Option Addr × Nat} {m : Nat} {cl : Int} {x : S53} (h : l[m]? = some x) : fromE l hd m cl = if x.f0 = cl then some (m, x, hd m) else fromE l hd (m + 1) cl := by
  have hy := evl_at (hd := hd) h
  obtain ⟨hk, he⟩ := List.getElem?_eq_some_iff.mp hy
  unfold fromE
  rw [filter_drop, filter_drop, List.drop_eq_getElem_cons hk, he, List.filter_cons]
  by_cases hc : x.f0 = cl
  · rw [if_pos hc, if_pos (by simpa using hc)]; rfl
  · rw [if_neg hc, if_neg (by simpa using hc)]
theorem from_end (l : List S53) (hd : Nat → Option Addr × Nat) (cl : Int) : fromE l hd l.length cl = none := by
  unfold fromE
  rw [filter_drop, List.drop_of_length_le (by rw [evl_length]; exact Nat.le_refl _)]
  rfl

set_option maxRecDepth 100000 in
set_option maxHeartbeats 16000000 in
theorem refSpans_calls (A : Option Addr) (c : Nat) (l : List S53) (hd : Nat → Option Addr × Nat) (w : World) (hE : Evs w A l hd) (hl : l.length ≤ 50) :
    Calls Try.prog 13 #[.slice A l.length c] w fun e w' => ∃ v, e = .returned v ∧
      w'.ownsRow w.heap.size 41 14 v (spTo l hd l.length).length (cellsL (spTo l hd l.length)) ∧ Below w.heap.size w w' := by
  have HE := Aside0.mk hE
  clear hE
  obtain ⟨i0, hi, hz0, hz1, hz2⟩ := info_parts info41
  go_enter Try.func13, Try.ntmps13
  go_wp2
  have HB : Aside0 (Below w.heap.size w (w.alloc (.cells #[] 41))) := ⟨(Below.refl _ _).alloc (Nat.le_refl _) _⟩
  have HR : Aside0 ((w.alloc (.cells #[] 41)).ownsRow w.heap.size 41 14 (.slice (some ⟨w.heap.size, 0, none⟩) 0 0) (spTo l hd 0).length (cellsL (spTo l hd 0))) :=
    ⟨⟨rfl, .inr ⟨w.heap.size, 0, #[], rfl, Nat.le_refl _, blk_new w _, Nat.le_refl _, by decide, rfl, rfl⟩⟩⟩
  go_loopw [3, 11] (fun v3 v11 W => ∃ k : Nat, k ≤ l.length ∧ v11 = .int .i64 k ∧ Aside0 (W.ownsRow w.heap.size 41 14 v3 (spTo l hd k).length (cellsL (spTo l hd k))) ∧ Aside0 (Below w.heap.size w W)) (fun _ v11 _ => l.length - (intOf v11).toNat)
  case atStart => exact ⟨0, Nat.zero_le _, rfl, HR, HB⟩
  case round =>
    clear HB HR
    obtain ⟨k, hk, rfl, HR, HB⟩ := hrel
    obtain ⟨wo, rfl⟩ : ∃ wo, wo = wr := ⟨_, rfl⟩
    by_cases hlt : k < l.length
    · obtain ⟨x, hx⟩ : ∃ x, l[k]? = some x := ⟨_, List.getElem?_eq_getElem hlt⟩
      obtain ⟨ad, rfl, ⟨e0, e1, e2, e3, e4, e5, e6, e7, e8, e9, e10, e11, e12⟩, -, -⟩ := (HE.out.below HB.out) k x hx
      have HX := Aside0.mk hx
      have HS := Aside0.mk (spTo_succ (hd := hd) hx)
      clear hx
      have HB1 : Aside0 (Below w.heap.size w (wo.alloc (.cells (evc x (hd k).1 (hd k).2) 53))) := ⟨HB.out.alloc HB.out.size _⟩
      have HR1 : Aside0 ((wo.alloc (.cells (evc x (hd k).1 (hd k).2) 53)).ownsRow w.heap.size 41 14 u3 (spTo l hd k).length (cellsL (spTo l hd k))) := ⟨HR.out.alloc _⟩
      by_cases hb : x.f1 = 0
      · have HO : Aside0 (spOf l hd k x = [(spanV x k (nextE l hd k x), hdV (nextE l hd k x))]) := ⟨by unfold spOf; rw [if_pos hb]⟩
        have hb2 : (x.f1 == 0) = true := by simp [hb]
        clear hb
        have HB2 : Aside0 (Below w.heap.size w ((wo.alloc (.cells (evc x (hd k).1 (hd k).2) 53)).alloc (.cells (spc (spanV x k none) none 0) 41))) := ⟨HB1.out.alloc HB1.out.size _⟩
        have HR2 : Aside0 (((wo.alloc (.cells (evc x (hd k).1 (hd k).2) 53)).alloc (.cells (spc (spanV x k none) none 0) 41)).ownsRow w.heap.size 41 14 u3 (spTo l hd k).length (cellsL (spTo l hd k))) := ⟨HR1.out.alloc _⟩
        have HP : Aside0 (((wo.alloc (.cells (evc x (hd k).1 (hd k).2) 53)).alloc (.cells (spc (spanV x k none) none 0) 41)).heap[wo.heap.size + 1]? = some (.cells (spc (spanV x k (fromE l hd (l.length - 1 + 1) x.f0)) (hdV (fromE l hd (l.length - 1 + 1) x.f0)).1 (hdV (fromE l hd (l.length - 1 + 1) x.f0)).2) 41 (0, 0))) := ⟨by
          rw [show l.length - 1 + 1 = l.length by omega, from_end]
          have := blk_new (wo.alloc (.cells (evc x (hd k).1 (hd k).2) 53)) (.cells (spc (spanV x k none) none 0) 41)
          rwa [World.size_alloc] at this⟩
        have HQ : Aside0 (((wo.alloc (.cells (evc x (hd k).1 (hd k).2) 53)).alloc (.cells (spc (spanV x k none) none 0) 41)).heap[wo.heap.size]? = some (.cells (evc x (hd k).1 (hd k).2) 53 (0, 0))) := ⟨blk_alloc (blk_new wo _) _⟩
        have hw := HB.out.size
        go_wp2
        go_loopw [7] (fun v7 W => ∃ m : Nat, k ≤ m ∧ m < l.length ∧ v7 = .int .i64 m ∧ Aside0 (W.ownsRow w.heap.size 41 14 u3 (spTo l hd k).length (cellsL (spTo l hd k))) ∧ Aside0 (Below w.heap.size w W) ∧ wo.heap.size + 2 ≤ W.heap.size ∧
          Aside0 (W.heap[wo.heap.size]? = some (.cells (evc x (hd k).1 (hd k).2) 53 (0, 0))) ∧ Aside0 (W.heap[wo.heap.size + 1]? = some (.cells (spc (spanV x k (fromE l hd (m + 1) x.f0)) (hdV (fromE l hd (m + 1) x.f0)).1 (hdV (fromE l hd (m + 1) x.f0)).2) 41 (0, 0)))) (fun v7 _ => (intOf v7).toNat)
        case atStart => exact ⟨l.length - 1, by omega, by omega, by congr 1; omega, HR2, HB2, by simp, HQ, HP⟩
        case round =>
          clear HR2 HB2 HQ HP e0 e1 e2 e3 e4 e5 e6 e7 e8 e9 e10 e11 e12
          obtain ⟨m, hkm, hml, rfl, HR3, HB3, hsz, HQ3, HP3⟩ := hrel
          obtain ⟨s, hs⟩ : ∃ s, spanV x k (fromE l hd (m + 1) x.f0) = s := ⟨_, rfl⟩
          have hq := HP3.out
          obtain ⟨b0, b1, b2, b3, b4, b5, b6, b7, b8, b9, b10, b11, b12, b13⟩ := spc_cells HP3.out
          have fs := blk_frozen HP3.out
          by_cases hm : k < m
          · obtain ⟨x', hx'⟩ : ∃ x', l[m]? = some x' := ⟨_, List.getElem?_eq_getElem hml⟩
            obtain ⟨ad', hA, ⟨e0, e1, e2, e3, e4, e5, e6, e7, e8, e9, e10, e11, e12⟩, -, -⟩ := (HE.out.below HB3.out) m x' hx'
            cases hA
            have hbl : (ad.add (m * 13)).block < w.heap.size := by
              obtain ⟨ad2, hA2, ⟨q0, -⟩, -⟩ := HE.out m x' hx'
              cases hA2
              exact World.block_lt_of_cell? _ _ q0
            have hne1 : (ad.add (m * 13)).block ≠ wo.heap.size + 1 := by omega
            have hne2 : wo.heap.size + 1 ≠ (ad.add (m * 13)).block := by omega
            have HF := Aside0.mk (from_step (hd := hd) (cl := x.f0) hx')
            have hE0 : wr.cell? ⟨wo.heap.size, 0, none⟩ = some (.int .i64 x.f0) := blk_cell HQ3.out 0
            clear hx' hq hs
            by_cases hc : x'.f0 = x.f0
            · have hc2 : (x'.f0 == x.f0) = true := by simp [hc]
              have HF2 : Aside0 (fromE l hd m x.f0 = some (m, x', hd m)) := ⟨by rw [HF.out, if_pos hc]⟩
              clear hc
              go_wp2
              repeat (go_quiet (fail); try go_wp2)
              have hne : ∀ q, q ≠ wo.heap.size + 1 → (((((wr.drewN nq).setCell ⟨wo.heap.size + 1, 13, none⟩ (.int .i64 m)).setCell ⟨wo.heap.size + 1, 9, none⟩ (.int .i64 x'.f4.f0)).setCell ⟨wo.heap.size + 1, 10, none⟩ (.int .i64 x'.f4.f1)).setCell ⟨wo.heap.size + 1, 11, none⟩ (.slice (hd m).1 x'.f4.f2.length (hd m).2)).heap[q]? = wr.heap[q]? := fun q hq =>
                (Below.heap_setCell _ _ _ q hq).trans ((Below.heap_setCell _ _ _ q hq).trans ((Below.heap_setCell _ _ _ q hq).trans (Below.heap_setCell _ _ _ q hq)))
              have HR4 : Aside0 ((((((wr.drewN nq).setCell ⟨wo.heap.size + 1, 13, none⟩ (.int .i64 m)).setCell ⟨wo.heap.size + 1, 9, none⟩ (.int .i64 x'.f4.f0)).setCell ⟨wo.heap.size + 1, 10, none⟩ (.int .i64 x'.f4.f1)).setCell ⟨wo.heap.size + 1, 11, none⟩ (.slice (hd m).1 x'.f4.f2.length (hd m).2)).ownsRow w.heap.size 41 14 u3 (spTo l hd k).length (cellsL (spTo l hd k))) := ⟨own_move HR3.out (fun q hq => hne q (by have := own_lt HR.out q hq; omega))⟩
              have HB4 : Aside0 (Below w.heap.size w (((((wr.drewN nq).setCell ⟨wo.heap.size + 1, 13, none⟩ (.int .i64 m)).setCell ⟨wo.heap.size + 1, 9, none⟩ (.int .i64 x'.f4.f0)).setCell ⟨wo.heap.size + 1, 10, none⟩ (.int .i64 x'.f4.f1)).setCell ⟨wo.heap.size + 1, 11, none⟩ (.slice (hd m).1 x'.f4.f2.length (hd m).2))) := ⟨((((pw_below_drewN HB3.out nq).setCell (p := ⟨wo.heap.size + 1, 13, none⟩) (show w.heap.size ≤ wo.heap.size + 1 by omega) _).setCell (p := ⟨wo.heap.size + 1, 9, none⟩) (show w.heap.size ≤ wo.heap.size + 1 by omega) _).setCell (p := ⟨wo.heap.size + 1, 10, none⟩) (show w.heap.size ≤ wo.heap.size + 1 by omega) _).setCell (p := ⟨wo.heap.size + 1, 11, none⟩) (show w.heap.size ≤ wo.heap.size + 1 by omega) _⟩
              have HP4 : Aside0 ((((((wr.drewN nq).setCell ⟨wo.heap.size + 1, 13, none⟩ (.int .i64 m)).setCell ⟨wo.heap.size + 1, 9, none⟩ (.int .i64 x'.f4.f0)).setCell ⟨wo.heap.size + 1, 10, none⟩ (.int .i64 x'.f4.f1)).setCell ⟨wo.heap.size + 1, 11, none⟩ (.slice (hd m).1 x'.f4.f2.length (hd m).2)).heap[wo.heap.size + 1]? = some (.cells (spc (spanV x k (fromE l hd m x.f0)) (hdV (fromE l hd m x.f0)).1 (hdV (fromE l hd m x.f0)).2) 41 (0, 0))) := ⟨by
                rw [HF2.out]
                refine (blk_set (blk_set (blk_set (blk_set (blk_drewN HP3.out nq) 13 _) 9 _) 10 _) 11 _).trans ?_
                cases fromE l hd (m + 1) x.f0 <;> rfl⟩
              go_roundw
              case rel => exact ⟨m - 1, by omega, by omega, by congr 1; omega, HR4, HB4, by simpa using hsz, ⟨(hne _ (by omega)).trans HQ3.out⟩, ⟨by rw [show m - 1 + 1 = m by omega]; exact HP4.out⟩⟩
              case measure => simp [intOf]; omega
            · have hc2 : (x'.f0 == x.f0) = false := by simp [hc]
              have HF2 : Aside0 (fromE l hd m x.f0 = fromE l hd (m + 1) x.f0) := ⟨by rw [HF.out, if_neg hc]⟩
              clear hc
              go_wp2
              repeat (go_quiet (fail); try go_wp2)
              go_roundw
              case rel => exact ⟨m - 1, by omega, by omega, by congr 1; omega, HR3, ⟨pw_below_drewN HB3.out _⟩, hsz, HQ3, ⟨by rw [show m - 1 + 1 = m by omega, HF2.out]; exact HP3.out⟩⟩
              case measure => simp [intOf]; omega
          · obtain rfl : m = k := by omega
            clear fs hq hs
            go_wp2_with (at_builtin; refine hold ?_)
            refine ⟨?_⟩
            have hB5 := HB3.out.alloc HB3.out.size (.cells (spc (spanV x m (nextE l hd m x)) (hdV (nextE l hd m x)).1 (hdV (nextE l hd m x)).2) 41)
            have hnew := blk_new wr (.cells (spc (spanV x m (nextE l hd m x)) (hdV (nextE l hd m x)).1 (hdV (nextE l hd m x)).2) 41)
            have hlen := spTo_length l hd m
            refine wpList_append_own _ rfl _ _ 24 rfl w.heap.size 41 i0 _ 14 136 Try.underlying24 hi hz0 hz1 hz2 rfl (by decide) _ _ _ rfl (HR3.out.alloc _) ⟨wr.heap.size, 0, none⟩ 1 1 _ rfl rfl (row_cells hnew) (spc_one _ _ _) (Nat.le_trans (show (spTo l hd m).length + 1 ≤ 64 by omega) (by decide)) (by omega) (by simp; omega) ?_
            intro v' w1 hown' hgrow _
            have HO' := Aside0.mk hown'
            have HB4 := Aside0.mk (pw_below_grown hB5 _ (by simp; omega) hgrow (fun k hk => own_base HR3.out k hk))
            clear hown' hgrow hnew hB5 hlen
            go_wp2
            go_roundw
            case rel => exact ⟨m + 1, hlt, by go_num, ⟨by rw [HS.out, HO.out, List.length_append, cellsL_snoc]; exact HO'.out⟩, HB4⟩
            case measure => simp [intOf]; omega
      · have HO : Aside0 (spOf l hd k x = []) := ⟨by unfold spOf; rw [if_neg hb]⟩
        have hb2 : (x.f1 == 0) = false := by simp [hb]
        clear hb
        go_wp2
        go_roundw
        case rel => exact ⟨k + 1, hlt, by go_num, ⟨by rw [HS.out, HO.out, List.append_nil]; exact HR1.out⟩, HB1⟩
        case measure => simp [intOf]; omega
    · obtain rfl : k = l.length := by omega
      go_wp2
      go_ret
      exact ⟨_, rfl, HR.out, HB.out⟩
end Go.Proofs.Ytobfcppjmocgnaa.Own

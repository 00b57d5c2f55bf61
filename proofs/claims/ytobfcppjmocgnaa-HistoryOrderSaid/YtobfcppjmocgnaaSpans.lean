/-
  history.Spans, walked by hand.
-/
import Derived.Test.YtobfcppjmocgnaaRight
import Derived.Test.YtobfcppjmocgnaaSpan
namespace Go.Proofs.Ytobfcppjmocgnaa.Own
open Go.RowKit Go.Shelf Go.Proofs.YtobfcppjmocgnaaW.PrintWords Go.Proofs.YtobfcppjmocgnaaW.PrintLast Go.Proofs.Ytobfcppjmocgnaa.P
set_option linter.unusedVariables false

/-- A span with its blocks' place. -/
abbrev SP := S41 × Option Addr × Nat
def spOf (l : List S53) (hd : Nat → Option Addr × Nat) (k : Nat) (x : S53) : List SP :=
  if x.f1 = 0 then [(spanV x k (nextE l hd k x), hdV (nextE l hd k x))] else []
/-- The spans of the first so many events. -/
def spTo (l : List S53) (hd : Nat → Option Addr × Nat) : Nat → List SP
  | 0 => []
  | k + 1 => spTo l hd k ++ (match l[k]? with | some x => spOf l hd k x | none => [])
theorem spTo_succ {l : List S53} {hd : Nat → Option Addr × Nat} {k : Nat} {x : S53} (h : l[k]? = some x) : spTo l hd (k + 1) = spTo l hd k ++ spOf l hd k x := by simp [spTo, h]
theorem spTo_length (l : List S53) (hd : Nat → Option Addr × Nat) (k : Nat) : (spTo l hd k).length ≤ k := by
  induction k with
  | zero => simp [spTo]
  | succ k ih =>
    simp only [spTo, List.length_append]
    split
    · unfold spOf; split <;> simp <;> omega
    · simp; omega
def cellsL (s : List SP) : List Value := s.flatMap (fun p => (spc p.1 p.2.1 p.2.2).toList)
theorem cellsL_snoc (s : List SP) (p : SP) : cellsL (s ++ [p]) = cellsL s ++ (spc p.1 p.2.1 p.2.2).toList := by simp [cellsL]
theorem span_calls (A : Option Addr) (c : Nat) (l : List S53) (hd : Nat → Option Addr × Nat) (k : Nat) (x : S53) (hx : l[k]? = some x) (hl : l.length ≤ 50) (w : World) (hE : Evs w A l hd) :
    Calls Try.prog 21 #[.slice A l.length c, .int .i64 k] w fun e W' => e = .returned (.agg (spc (spanV x k (nextE l hd k x)) (hdV (nextE l hd k x)).1 (hdV (nextE l hd k x)).2)) ∧ Below w.heap.size w W' :=
  callsIn_wide.1 (span_in 3 (Nat.le_refl _) A c l hd k x hx hl w hE)
theorem spc_one (s : S41) (B : Option Addr) (c : Nat) : ∀ u ∈ (spc s B c).toList, u.oneCell' = true := by
  intro u hu
  simp only [spc, List.mem_cons, List.not_mem_nil, or_false] at hu
  rcases hu with h | h | h | h | h | h | h | h | h | h | h | h | h | h <;> (subst h; rfl)
theorem row_cells {W : World} {g : Nat} {t : TypeId} {cs : Array Value} (h : W.heap[g]? = some (.cells cs t (0, 0))) : ∀ j u, cs.toList[j]? = some u → W.cell? ((⟨g, 0, none⟩ : Addr).add j) = some u := by
  intro j u hu
  rw [add_plain, blk_cell h, ← Array.getElem?_toList]
  exact hu

structure Hold (p : Prop) : Prop where mk :: (out : p)
theorem hold {p : Prop} (h : Hold p) : p := h.out
set_option maxRecDepth 100000 in
set_option maxHeartbeats 8000000 in
theorem spans_calls (A : Option Addr) (c : Nat) (l : List S53) (hd : Nat → Option Addr × Nat) (w : World) (hC : Kd.C k53 w A l.length l) (hE : Evs w A l hd) (hl : l.length ≤ 50) :
    Calls Try.prog 8 #[.slice A l.length c] w fun e w' => ∃ v, e = .returned (.tuple #[v, .int .i64 (if okH l then 0 else 1)]) ∧
      w'.ownsRow w.heap.size 41 14 v (if okH l then (spTo l hd l.length).length else 0) (cellsL (if okH l then spTo l hd l.length else [])) ∧ Below w.heap.size w w' := by
  have HC := Aside0.mk hC
  have HE := Aside0.mk hE
  clear hC hE
  obtain ⟨i0, hi, hz0, hz1, hz2⟩ := info_parts info41
  cases ho : okH l with
  | false =>
    go_enter Try.func8, Try.ntmps8
    go_wp2_with (go_at_call 9; refine (right_calls A c l _ HC.out hl).mono ?_; rintro e w' ⟨rfl, hb⟩; rw [ho])
    go_ret2
    exact ⟨_, rfl, World.ownsRow_nil _ _ _ _, hb⟩
  | true =>
    go_enter Try.func8, Try.ntmps8
    go_wp2_with (go_at_call 9; refine (right_calls A c l _ HC.out hl).mono ?_; rintro e w' ⟨rfl, hb⟩; rw [ho])
    have HB := Aside0.mk hb
    clear hb ho
    have HR : Aside0 (w'.ownsRow w.heap.size 41 14 (.slice none 0 0) (spTo l hd 0).length (cellsL (spTo l hd 0))) := ⟨World.ownsRow_nil _ _ _ _⟩
    go_loopw [4, 12] (fun v4 v12 W => ∃ k : Nat, k ≤ l.length ∧ v12 = .int .i64 k ∧ Aside0 (W.ownsRow w.heap.size 41 14 v4 (spTo l hd k).length (cellsL (spTo l hd k))) ∧ Aside0 (Below w.heap.size w W)) (fun _ v12 _ => l.length - (intOf v12).toNat)
    case atStart => exact ⟨0, Nat.zero_le _, rfl, HR, HB⟩
    case round =>
      clear HB HR
      obtain ⟨k, hk, rfl, HR, HB⟩ := hrel
      by_cases hlt : k < l.length
      · obtain ⟨x, hx⟩ : ∃ x, l[k]? = some x := ⟨_, List.getElem?_eq_getElem hlt⟩
        obtain ⟨ad, rfl, ⟨e0, e1, e2, e3, e4, e5, e6, e7, e8, e9, e10, e11, e12⟩, -, -⟩ := (HE.out.below HB.out) k x hx
        have HX := Aside0.mk hx
        have HS := Aside0.mk (spTo_succ (hd := hd) hx)
        clear hx
        have HB1 : Aside0 (Below w.heap.size w (wr.alloc (.cells (evc x (hd k).1 (hd k).2) 53))) := ⟨HB.out.alloc HB.out.size _⟩
        have HR1 : Aside0 ((wr.alloc (.cells (evc x (hd k).1 (hd k).2) 53)).ownsRow w.heap.size 41 14 u4 (spTo l hd k).length (cellsL (spTo l hd k))) := ⟨HR.out.alloc _⟩
        by_cases hb : x.f1 = 0
        · have HO : Aside0 (spOf l hd k x = [(spanV x k (nextE l hd k x), hdV (nextE l hd k x))]) := ⟨by unfold spOf; rw [if_pos hb]⟩
          have hb2 : (x.f1 == 0) = true := by simp [hb]
          clear hb
          go_wp2_with (first | (go_at_call 21; refine (span_calls (some ad) c l hd k x HX.out hl _ (HE.out.below HB1.out)).mono ?_; rintro e w' ⟨rfl, hb⟩; simp only [spc]) | (at_builtin; refine hold ?_))
          refine ⟨?_⟩
          have hb' := HB1.out.trans (hb.mono HB1.out.size)
          have hnew := blk_new w' (.cells (spc (spanV x k (nextE l hd k x)) (hdV (nextE l hd k x)).1 (hdV (nextE l hd k x)).2) 41)
          have hB3 := hb'.alloc hb'.size (.cells (spc (spanV x k (nextE l hd k x)) (hdV (nextE l hd k x)).1 (hdV (nextE l hd k x)).2) 41)
          have hlen := spTo_length l hd k
          refine wpList_append_own _ rfl _ _ 24 rfl w.heap.size 41 i0 _ 14 136 Try.underlying24 hi hz0 hz1 hz2 rfl (by decide) _ _ _ rfl ((pw_own_below HR1.out hb).alloc _) ⟨w'.heap.size, 0, none⟩ 1 1 _ rfl rfl (row_cells hnew) (spc_one _ _ _) (Nat.le_trans (show (spTo l hd k).length + 1 ≤ 64 by omega) (by decide)) (by omega) (by simp; have := hb'.size; omega) ?_
          intro v' w1 hown' hgrow _
          have HO' := Aside0.mk hown'
          have HB4 := Aside0.mk (pw_below_grown hB3 _ (by simp; have := hb'.size; omega) hgrow (fun k hk => own_base (pw_own_below HR1.out hb) k hk))
          clear hown' hgrow hnew hB3 hb' hb hlen
          go_wp2
          go_roundw
          case rel => exact ⟨k + 1, hlt, by go_num, ⟨by rw [HS.out, HO.out, List.length_append, cellsL_snoc]; exact HO'.out⟩, HB4⟩
          case measure => simp [intOf]; omega
        · have HO : Aside0 (spOf l hd k x = []) := ⟨by unfold spOf; rw [if_neg hb]⟩
          have hb2 : (x.f1 == 0) = false := by simp [hb]
          clear hb
          go_wp2
          go_roundw
          case rel => exact ⟨k + 1, hlt, by go_num, ⟨by rw [HS.out, HO.out, List.append_nil]; exact HR1.out⟩, HB1⟩
          case measure => simp [intOf]; omega
      · obtain rfl : k = l.length := by omega
        go_wp2
        go_ret2
        exact ⟨_, rfl, HR.out, HB.out⟩
end Go.Proofs.Ytobfcppjmocgnaa.Own

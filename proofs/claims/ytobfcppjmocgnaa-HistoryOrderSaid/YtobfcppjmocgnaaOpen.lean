/-
  history.Open and the reference's Open, walked by hand.
-/
import Derived.Test.YtobfcppjmocgnaaAlone
namespace Go.Proofs.Ytobfcppjmocgnaa.Own
open Go.RowKit Go.Shelf Go.Proofs.YtobfcppjmocgnaaW.PrintWords Go.Proofs.YtobfcppjmocgnaaW.PrintLast Go.Proofs.Ytobfcppjmocgnaa.P
set_option linter.unusedVariables false

def openAt (k : Nat) (p : SP) : List Int := if p.1.f5 < 0 then [(k : Int)] else []
/-- The places of the first so many spans that have not ended. -/
def openTo (sp : List SP) : Nat → List Int
  | 0 => []
  | k + 1 => openTo sp k ++ (match sp[k]? with | some p => openAt k p | none => [])
theorem openTo_succ {sp : List SP} {k : Nat} {p : SP} (h : sp[k]? = some p) : openTo sp (k + 1) = openTo sp k ++ openAt k p := by simp [openTo, h]
theorem openTo_length (sp : List SP) (k : Nat) : (openTo sp k).length ≤ k := by
  induction k with
  | zero => simp [openTo]
  | succ k ih =>
    simp only [openTo, List.length_append]
    split
    · unfold openAt; split <;> simp <;> omega
    · simp; omega
theorem info3 : (Try.prog.info? 3).map (fun i => (i.zero, i.size, i.bytes)) = some (some (.int .i64 0), 1, 8) := by kernel_rfl
theorem own_weak {w : World} {b b' : Nat} {e : TypeId} {size : Nat} {v : Value} {k : Nat} {xs : List Value} (hb : b' ≤ b) (h : w.ownsRow b e size v k xs) : w.ownsRow b' e size v k xs :=
  ⟨h.1, h.2.imp id fun ⟨g, cap, cur, h1, h2, h3⟩ => ⟨g, cap, cur, h1, Nat.le_trans hb h2, h3⟩⟩
set_option maxRecDepth 100000 in
set_option maxHeartbeats 16000000 in
theorem open_calls (A : Option Addr) (c : Nat) (l : List S53) (hd : Nat → Option Addr × Nat) (w : World) (hC : Kd.C k53 w A l.length l) (hE : Evs w A l hd) (hl : l.length ≤ 50) (sp : List SP) (hsp : sp = if okH l then spTo l hd l.length else []) :
    Calls Try.prog 15 #[.slice A l.length c] w fun e w' => ∃ v, e = .returned (.tuple #[v, .int .i64 (if okH l then 0 else 1)]) ∧ w'.ownsRow w.heap.size 3 1 v (openTo sp sp.length).length ((openTo sp sp.length).map (Value.int .i64)) ∧ Below w.heap.size w w' := by
  have HC := Aside0.mk hC
  have HE := Aside0.mk hE
  have HSP := Aside0.mk hsp
  obtain ⟨i0, hi, hz0, hz1, hz2⟩ := info_parts info3
  have hs2 : sp.length ≤ 50 := by
    rw [hsp]; split
    · exact Nat.le_trans (spTo_length _ _ _) hl
    · simp
  clear hC hE hsp
  cases ho : okH l with
  | false =>
    have HO := Aside0.mk ho
    have hn0 : Aside0 (openTo sp sp.length = []) := ⟨by rw [HSP.out, ho]; rfl⟩
    clear ho
    go_enter Try.func15, Try.ntmps15
    go_wp2_with (go_at_call 8; refine (spans_told A c l hd _ HC.out HE.out hl sp HSP.out).mono ?_; rintro e w1 ⟨B, d, rfl, hs, hb1⟩; rw [HO.out]; have HB1 := Aside0.mk hb1; clear hb1 hs)
    go_ret2
    exact ⟨_, rfl, by rw [hn0.out]; exact World.ownsRow_nil _ _ _ _, HB1.out⟩
  | true =>
    have HO := Aside0.mk ho
    clear ho
    go_enter Try.func15, Try.ntmps15
    go_wp2_with (go_at_call 8; refine (spans_told A c l hd _ HC.out HE.out hl sp HSP.out).mono ?_; rintro e w1 ⟨B, d, rfl, hs, hb1⟩; rw [HO.out]; have HB0 := Aside0.mk hb1; have HSS := Aside0.mk hs; clear hb1 hs)
    have HKEEP : Aside0 (∀ W, Below w1.heap.size w1 W → Sps W B sp) := ⟨fun W h => HSS.out.below h⟩
    have HWB : Aside0 (w1.heap.size ≤ w1.heap.size) := ⟨Nat.le_refl _⟩
    have HR : Aside0 (w1.ownsRow w1.heap.size 3 1 (.slice none 0 0) (openTo sp 0).length ((openTo sp 0).map (Value.int .i64))) := ⟨World.ownsRow_nil _ _ _ _⟩
    go_loopw [6, 19] (fun v6 v19 W => ∃ k : Nat, k ≤ sp.length ∧ v19 = .int .i64 k ∧ Aside0 (W.ownsRow w1.heap.size 3 1 v6 (openTo sp k).length ((openTo sp k).map (Value.int .i64))) ∧ Aside0 (Below w1.heap.size w1 W) ∧ Aside0 (w1.heap.size ≤ W.heap.size)) (fun _ v19 _ => sp.length - (intOf v19).toNat)
    case atStart => exact ⟨0, Nat.zero_le _, rfl, HR, ⟨Below.refl _ _⟩, HWB⟩
    case round =>
      clear HR
      obtain ⟨k, hk, rfl, HR, HB, HZ⟩ := hrel
      by_cases hlt : k < sp.length
      · obtain ⟨p, hp⟩ : ∃ p, sp[k]? = some p := ⟨_, List.getElem?_eq_getElem hlt⟩
        obtain ⟨ad, rfl, ⟨e0, e1, e2, e3, e4, e5, e6, e7, e8, e9, e10, e11, e12, e13⟩, -, -⟩ := (HKEEP.out wr HB.out) k p hp
        have HS := Aside0.mk (openTo_succ hp)
        clear hp
        have HB1 : Aside0 (Below w1.heap.size w1 (wr.alloc (.cells (spc p.1 p.2.1 p.2.2) 41))) := ⟨HB.out.alloc HZ.out _⟩
        have HZ1 : Aside0 (w1.heap.size ≤ (wr.alloc (.cells (spc p.1 p.2.1 p.2.2) 41)).heap.size) := ⟨by have := HZ.out; rw [World.size_alloc]; omega⟩
        have HR1 : Aside0 ((wr.alloc (.cells (spc p.1 p.2.1 p.2.2) 41)).ownsRow w1.heap.size 3 1 u6 (openTo sp k).length ((openTo sp k).map (Value.int .i64))) := ⟨HR.out.alloc _⟩
        by_cases hb : p.1.f5 < 0
        · have HO : Aside0 (openAt k p = [(k : Int)]) := ⟨by unfold openAt; rw [if_pos hb]⟩
          have hlen := openTo_length sp k
          go_wp2_with (at_builtin; refine hold ?_)
          refine ⟨?_⟩
          have hnew := cell_one_new (wr.alloc (.cells (spc p.1 p.2.1 p.2.2) 41)) (.int .i64 k) 3
          rw [World.size_alloc] at hnew
          have hB3 := HB1.out.alloc HZ1.out (.cells #[.int .i64 k] 3)
          have hZ3 : w1.heap.size ≤ ((wr.alloc (.cells (spc p.1 p.2.1 p.2.2) 41)).alloc (.cells #[.int .i64 k] 3)).heap.size := by have := HZ1.out; rw [World.size_alloc]; omega
          refine wpList_append_own _ rfl _ _ 45 rfl w1.heap.size 3 i0 _ 1 8 Try.underlying45 hi hz0 hz1 hz2 rfl (by decide) _ _ _ rfl (HR1.out.alloc _) ⟨wr.heap.size + 1, 0, none⟩ 1 1 [.int .i64 k] rfl rfl hnew (by simp [Value.oneCell']) (Nat.le_trans (show (openTo sp k).length + 1 ≤ 64 by omega) (by decide)) (by omega) hZ3 ?_
          intro v' w2 hown' hgrow _
          have HO' := Aside0.mk hown'
          have HB4 := Aside0.mk (pw_below_grown hB3 _ hZ3 hgrow (fun q hq => own_base HR1.out q hq))
          have HZ4 := Aside0.mk (Nat.le_trans hZ3 hgrow.size)
          clear hown' hgrow hnew hB3 hlen hZ3
          go_wp2
          go_roundw
          case rel => exact ⟨k + 1, hlt, by go_num, ⟨by rw [HS.out, HO.out, List.length_append, List.map_append]; exact HO'.out⟩, HB4, HZ4⟩
          case measure => simp [intOf]; omega
        · have HO : Aside0 (openAt k p = []) := ⟨by unfold openAt; rw [if_neg hb]⟩
          go_wp2
          go_roundw
          case rel => exact ⟨k + 1, hlt, by go_num, ⟨by rw [HS.out, HO.out, List.append_nil]; exact HR1.out⟩, HB1, HZ1⟩
          case measure => simp [intOf]; omega
      · obtain rfl : k = sp.length := by omega
        go_wp2
        go_ret2
        exact ⟨_, rfl, own_weak HB0.out.size HR.out, HB0.out.trans (HB.out.mono HB0.out.size)⟩

set_option maxRecDepth 100000 in
set_option maxHeartbeats 16000000 in
theorem refOpen_calls (A : Option Addr) (c : Nat) (l : List S53) (hd : Nat → Option Addr × Nat) (w : World) (hE : Evs w A l hd) (hl : l.length ≤ 50) (sp : List SP) (hsp : sp = spTo l hd l.length) :
    Calls Try.prog 20 #[.slice A l.length c] w fun e w' => ∃ v, e = .returned v ∧ w'.ownsRow w.heap.size 3 1 v (openTo sp sp.length).length ((openTo sp sp.length).map (Value.int .i64)) ∧ Below w.heap.size w w' := by
  have HE := Aside0.mk hE
  have HSP := Aside0.mk hsp
  obtain ⟨i0, hi, hz0, hz1, hz2⟩ := info_parts info3
  have hs2 : sp.length ≤ 50 := by rw [hsp]; exact Nat.le_trans (spTo_length _ _ _) hl
  have HB00 : Aside0 (Below w.heap.size w (w.alloc (.cells #[] 3))) := ⟨(Below.refl _ _).alloc (Nat.le_refl _) _⟩
  have HR00 : Aside0 ((w.alloc (.cells #[] 3)).ownsRow w.heap.size 3 1 (.slice (some ⟨w.heap.size, 0, none⟩) 0 0) (openTo sp 0).length ((openTo sp 0).map (Value.int .i64))) :=
    ⟨⟨rfl, .inr ⟨w.heap.size, 0, #[], rfl, Nat.le_refl _, blk_new w _, Nat.le_refl _, by decide, rfl, rfl⟩⟩⟩
  clear hE hsp
  · go_enter Try.func20, Try.ntmps20
    go_wp2_with (go_at_call 13; refine (refSpans_calls A c l hd _ (HE.out.below HB00.out) hl).mono ?_; rintro e w1 ⟨v1, rfl, ho, hb1⟩; rw [← HSP.out] at ho; obtain ⟨B, d, rfl⟩ := own_slice ho; have HB0 := Aside0.mk (HB00.out.trans (hb1.mono HB00.out.size)); have HS1 := Aside0.mk ho; have HR0 := Aside0.mk (pw_own_below HR00.out hb1); have HZ0 := Aside0.mk (Nat.le_trans HB00.out.size hb1.size); clear hb1 ho)
    have HKEEP : Aside0 (∀ W, Below w.heap.size w W → (∀ g, w.heap.size < g → g < w1.heap.size → W.heap[g]? = w1.heap[g]?) → Sps W B sp) := ⟨fun W h1 h2 => by
      have hI := (inner_of HE.out l.length).below h1
      rw [← HSP.out] at hI
      obtain ⟨A2, c2, e2, hs⟩ := sps_of (own_move HS1.out (fun q hq => h2 q (by have := own_base HS1.out q hq; rw [World.size_alloc] at this; omega) (own_lt HS1.out q hq))) hI
      cases e2
      exact hs⟩
    go_loopw [3, 10] (fun v3 v10 W => ∃ k : Nat, k ≤ sp.length ∧ v10 = .int .i64 k ∧ Aside0 (W.ownsRow w.heap.size 3 1 v3 (openTo sp k).length ((openTo sp k).map (Value.int .i64))) ∧ Aside0 (Below w.heap.size w W) ∧ Aside0 (w1.heap.size ≤ W.heap.size) ∧
      Aside0 (∀ q, v3.ownBlock = some q → q = w.heap.size ∨ w1.heap.size ≤ q) ∧ Aside0 (∀ g, w.heap.size < g → g < w1.heap.size → W.heap[g]? = w1.heap[g]?)) (fun _ v10 _ => sp.length - (intOf v10).toNat)
    case atStart => exact ⟨0, Nat.zero_le _, rfl, HR0, HB0, ⟨Nat.le_refl _⟩, ⟨fun q hq => .inl (by simpa [Value.ownBlock] using hq.symm)⟩, ⟨fun _ _ _ => rfl⟩⟩
    case round =>
      clear HR0 HB0
      obtain ⟨k, hk, rfl, HR, HB, HZ, HV, HG⟩ := hrel
      by_cases hlt : k < sp.length
      · obtain ⟨p, hp⟩ : ∃ p, sp[k]? = some p := ⟨_, List.getElem?_eq_getElem hlt⟩
        obtain ⟨ad, rfl, ⟨e0, e1, e2, e3, e4, e5, e6, e7, e8, e9, e10, e11, e12, e13⟩, -, -⟩ := (HKEEP.out wr HB.out HG.out) k p hp
        have HS := Aside0.mk (openTo_succ hp)
        clear hp
        have HZw := Aside0.mk (Nat.le_trans HZ0.out HZ.out)
        have HB1 : Aside0 (Below w.heap.size w (wr.alloc (.cells (spc p.1 p.2.1 p.2.2) 41))) := ⟨HB.out.alloc HZw.out _⟩
        have HZ1 : Aside0 (w1.heap.size ≤ (wr.alloc (.cells (spc p.1 p.2.1 p.2.2) 41)).heap.size) := ⟨by have := HZ.out; rw [World.size_alloc]; omega⟩
        have HG1 : Aside0 (∀ g, w.heap.size < g → g < w1.heap.size → (wr.alloc (.cells (spc p.1 p.2.1 p.2.2) 41)).heap[g]? = w1.heap[g]?) := ⟨fun g h1 h2 => (Below.heap_alloc wr _ g (by have := HZ.out; omega)).trans (HG.out g h1 h2)⟩
        have HR1 : Aside0 ((wr.alloc (.cells (spc p.1 p.2.1 p.2.2) 41)).ownsRow w.heap.size 3 1 u3 (openTo sp k).length ((openTo sp k).map (Value.int .i64))) := ⟨HR.out.alloc _⟩
        by_cases hb : p.1.f5 < 0
        · have HO : Aside0 (openAt k p = [(k : Int)]) := ⟨by unfold openAt; rw [if_pos hb]⟩
          have hlen := openTo_length sp k
          go_wp2_with (at_builtin; refine hold ?_)
          refine ⟨?_⟩
          have hnew := cell_one_new (wr.alloc (.cells (spc p.1 p.2.1 p.2.2) 41)) (.int .i64 k) 3
          rw [World.size_alloc] at hnew
          have hZ3 : w1.heap.size ≤ ((wr.alloc (.cells (spc p.1 p.2.1 p.2.2) 41)).alloc (.cells #[.int .i64 k] 3)).heap.size := by have := HZ1.out; rw [World.size_alloc]; omega
          have hB3 := HB1.out.alloc (Nat.le_trans HZ0.out HZ1.out) (.cells #[.int .i64 k] 3)
          have hW3 := Nat.le_trans HZ0.out hZ3
          have hG3 : ∀ g, w.heap.size < g → g < w1.heap.size → ((wr.alloc (.cells (spc p.1 p.2.1 p.2.2) 41)).alloc (.cells #[.int .i64 k] 3)).heap[g]? = w1.heap[g]? := fun g h1 h2 => (Below.heap_alloc _ _ g (by have := HZ1.out; omega)).trans (HG1.out g h1 h2)
          refine wpList_append_own_at _ rfl _ _ 45 rfl w.heap.size 3 i0 _ 1 8 Try.underlying45 hi hz0 hz1 hz2 rfl (by decide) _ _ _ rfl (HR1.out.alloc _) ⟨wr.heap.size + 1, 0, none⟩ 1 1 [.int .i64 k] rfl rfl hnew (by simp [Value.oneCell']) (Nat.le_trans (show (openTo sp k).length + 1 ≤ 64 by omega) (by decide)) (by omega) hW3 ?_
          intro v' w2 hown' hgrow _ hat
          have HO' := Aside0.mk hown'
          have HB4 := Aside0.mk (pw_below_grown hB3 _ hW3 hgrow (fun q hq => own_base HR1.out q hq))
          have HZ4 := Aside0.mk (Nat.le_trans hZ3 hgrow.size)
          have HV4 : Aside0 (∀ q, v'.ownBlock = some q → q = w.heap.size ∨ w1.heap.size ≤ q) := ⟨fun q hq => by
            rcases hat with h | h
            · exact HV.out q (h.symm.trans hq)
            · rw [h] at hq; cases hq; exact .inr hZ3⟩
          have HG4 : Aside0 (∀ g, w.heap.size < g → g < w1.heap.size → w2.heap[g]? = w1.heap[g]?) := ⟨fun g h1 h2 => (hgrow.block g (Nat.lt_of_lt_of_le h2 hZ3) (fun e => by rcases HV.out g e.symm with h | h <;> omega)).trans (hG3 g h1 h2)⟩
          clear hown' hgrow hnew hB3 hlen hZ3 hG3 hat hW3
          go_wp2
          go_roundw
          case rel => exact ⟨k + 1, hlt, by go_num, ⟨by rw [HS.out, HO.out, List.length_append, List.map_append]; exact HO'.out⟩, HB4, HZ4, HV4, HG4⟩
          case measure => simp [intOf]; omega
        · have HO : Aside0 (openAt k p = []) := ⟨by unfold openAt; rw [if_neg hb]⟩
          go_wp2
          go_roundw
          case rel => exact ⟨k + 1, hlt, by go_num, ⟨by rw [HS.out, HO.out, List.append_nil]; exact HR1.out⟩, HB1, HZ1, HV, HG1⟩
          case measure => simp [intOf]; omega
      · obtain rfl : k = sp.length := by omega
        go_wp2
        go_ret
        exact ⟨_, rfl, HR.out, HB.out⟩
end Go.Proofs.Ytobfcppjmocgnaa.Own

/-
  Events in memory: what a slice of events reads; history.Right's test of one event, and the iterator history.of, walked by hand.
-/
import Derived.RangeFuncBox
import Derived.RangeFuncLeaves
import Derived.RangeFuncNested
import Derived.RangeFuncBound
import Derived.RangeFuncCalls
import Derived.Shelf.Abstract
import Derived.Shelf.RegionOpen
import Derived.WalkKit
import Derived.OwnWalkIn
import Derived.TacticsInMore
import Derived.LoopNIn
import Derived.LoopIn
import Derived.Maps.AppendAt
import Derived.Test.YtobfcppjmocgnaaPx0
namespace Go.Proofs.Ytobfcppjmocgnaa.Own
open Go.RowKit Go.Shelf Go.Proofs.YtobfcppjmocgnaaW.PrintWords Go.Proofs.YtobfcppjmocgnaaW.PrintLast Go.Proofs.Ytobfcppjmocgnaa.P
attribute [local go_sem] Oper.semAt_some
abbrev W0 : Fence := Fence.wide

/-- An event's cells: A, c are its blocks' address and room. -/
def evc (x : S53) (A : Option Addr) (c : Nat) : Array Value := #[.int .i64 x.f0, .int .i64 x.f1, .int .i64 x.f2, .int .i64 x.f3.f0, .int .u64 x.f3.f1, .int .i64 x.f3.f2, .int .i64 x.f3.f3, .int .i64 x.f3.f4, .int .u64 x.f3.f5.f0, .string x.f3.f5.f1, .int .i64 x.f4.f0, .int .i64 x.f4.f1, .slice A x.f4.f2.length c]

theorem of_in (F : Fence) (n : Nat) (h5 : F.fn 29) (hro : F.round = none) (A : Option Addr) (m c : Nat) (k f : Int) (w : World) :
    CallsIn F n Try.prog 29 #[.slice A m c, .int .i64 k, .int .i64 f] w fun e w' => e = .returned (.func (.func 33) #[] #[.pointer (some ⟨w.heap.size, 0, none⟩), .pointer (some ⟨w.heap.size + 1 + 1, 0, none⟩), .pointer (some ⟨w.heap.size + 1, 0, none⟩)]) ∧
      w' = ((w.alloc (.cells #[.slice A m c] 22)).alloc (.cells #[.int .i64 k] 3)).alloc (.cells #[.int .i64 f] 3) := by
  refine callsIn_of_wp Try.func29 rfl h5 ?_ hro
  simp only [Try.ntmps29, List.size_toArray, List.length_cons, List.length_nil, Nat.reduceAdd, Nat.reduceSub, Array.replicate_succ, Array.replicate_zero, List.push_toArray, List.append_toArray, List.nil_append, List.cons_append]
  gi_wp2
  go_ret
  exact ⟨rfl, rfl⟩

/-- history.Right's test. -/
def okCl (c : Int) : Bool := decide (c < 0) || decide (4 ≤ c)
set_option maxRecDepth 100000 in
set_option maxHeartbeats 4000000 in
theorem cl_calls (x : S53) (A : Option Addr) (c : Nat) (w : World) : Calls Try.prog 23 #[.agg (evc x A c)] w fun e w' => e = .returned (.bool (okCl x.f0)) ∧ Below w.heap.size w w' := by
  unfold evc
  by_cases h : x.f0 < 0
  · have e : okCl x.f0 = true := by unfold okCl; simp [h]
    rw [e]
    clear e
    go_enter Try.func23, Try.ntmps23
    go_wp2
    go_ret
    exact ⟨rfl, (Below.refl _ _).alloc (Nat.le_refl _) _⟩
  · have e : okCl x.f0 = decide (4 ≤ x.f0) := by unfold okCl; simp [h]
    rw [e]
    have h1 : decide (x.f0 < 0) = false := decide_eq_false h
    clear e
    go_enter Try.func23, Try.ntmps23
    go_wp2
    go_ret
    exact ⟨rfl, (Below.refl _ _).alloc (Nat.le_refl _) _⟩

theorem take_snoc {α : Type} {l : List α} {k : Nat} {x : α} (h : l[k]? = some x) : l.take (k + 1) = l.take k ++ [x] := by
  obtain ⟨hk, rfl⟩ := List.getElem?_eq_some_iff.mp h
  exact List.take_succ_eq_append_getElem hk
/-- An event of a slice: its cells, one by one. -/
theorem ev_at {w : World} {A : Option Addr} {l : List S53} (h : Kd.C k53 w A l.length l) (k : Nat) (hk : k < l.length) :
    ∃ ad B c x, A = some ad ∧ l[k]? = some x ∧ (w.cell? (ad.add (k * 13)) = some (.int .i64 x.f0) ∧ w.cell? ⟨(ad.add (k * 13)).block, (ad.add (k * 13)).off + 1, none⟩ = some (.int .i64 x.f1) ∧ w.cell? ⟨(ad.add (k * 13)).block, (ad.add (k * 13)).off + 2, none⟩ = some (.int .i64 x.f2) ∧
      w.cell? ⟨(ad.add (k * 13)).block, (ad.add (k * 13)).off + 3, none⟩ = some (.int .i64 x.f3.f0) ∧ w.cell? ⟨(ad.add (k * 13)).block, (ad.add (k * 13)).off + 4, none⟩ = some (.int .u64 x.f3.f1) ∧ w.cell? ⟨(ad.add (k * 13)).block, (ad.add (k * 13)).off + 5, none⟩ = some (.int .i64 x.f3.f2) ∧
      w.cell? ⟨(ad.add (k * 13)).block, (ad.add (k * 13)).off + 6, none⟩ = some (.int .i64 x.f3.f3) ∧ w.cell? ⟨(ad.add (k * 13)).block, (ad.add (k * 13)).off + 7, none⟩ = some (.int .i64 x.f3.f4) ∧ w.cell? ⟨(ad.add (k * 13)).block, (ad.add (k * 13)).off + 8, none⟩ = some (.int .u64 x.f3.f5.f0) ∧
      w.cell? ⟨(ad.add (k * 13)).block, (ad.add (k * 13)).off + 9, none⟩ = some (.string x.f3.f5.f1) ∧ w.cell? ⟨(ad.add (k * 13)).block, (ad.add (k * 13)).off + 10, none⟩ = some (.int .i64 x.f4.f0) ∧ w.cell? ⟨(ad.add (k * 13)).block, (ad.add (k * 13)).off + 11, none⟩ = some (.int .i64 x.f4.f1) ∧
      w.cell? ⟨(ad.add (k * 13)).block, (ad.add (k * 13)).off + 12, none⟩ = some (.slice B x.f4.f2.length c)) ∧ x.f4.f2.length ≤ c ∧ Kd.string.C w B x.f4.f2.length x.f4.f2 := by
  obtain ⟨ad, B, c, e, h0, h1, h2, h3, h4, h5, h6, h7, h8, h9, h10, h11, h12, hl, hr⟩ := at_T53 h (k : Int) (by omega) (by omega)
  have e2 : rd_T53 l (k : Int) = l[k] := by unfold rd_T53; simp [List.getD_eq_getElem?_getD, List.getElem?_eq_getElem hk]
  rw [e2] at h0 h1 h2 h3 h4 h5 h6 h7 h8 h9 h10 h11 h12 hl hr
  exact ⟨ad, B, c, l[k], e, List.getElem?_eq_getElem hk, ⟨h0, h1, h2, h3, h4, h5, h6, h7, h8, h9, h10, h11, h12⟩, hl, hr⟩

set_option maxRecDepth 100000 in
set_option maxHeartbeats 4000000 in
theorem index_calls (A : Option Addr) (c : Nat) (l : List S53) (w : World) (hC : Kd.C k53 w A l.length l) (hl : l.length ≤ 50) :
    Calls Try.prog 30 #[.slice A l.length c, .func (.func 23) #[] #[]] w fun e w' => ∃ r : Int, e = .returned (.int .i64 r) ∧ (decide (0 ≤ r)) = l.any (fun x => okCl x.f0) ∧ Below w.heap.size w w' := by
  have HC := Aside0.mk hC
  clear hC
  go_enter Try.func30, Try.ntmps30
  go_wp2
  go_loopw [8] (fun v8 W => ∃ k : Nat, k ≤ l.length ∧ v8 = .int .i64 k ∧ Aside0 ((l.take k).any (fun x => okCl x.f0) = false) ∧ Aside0 (Below w.heap.size w W)) (fun v8 _ => l.length - (intOf v8).toNat)
  case atStart => exact ⟨0, Nat.zero_le _, rfl, ⟨rfl⟩, ⟨Below.refl _ _⟩⟩
  case round =>
    obtain ⟨k, hk, rfl, HA, HB⟩ := hrel
    by_cases hlt : k < l.length
    · obtain ⟨ad, B, cb, x, rfl, hx, ⟨h0, h1, h2, h3, h4, h5, h6, h7, h8, h9, h10, h11, h12⟩, -, -⟩ := ev_at (Kd.C_below HC.out HB.out) k hlt
      have HX := Aside0.mk hx
      clear hx
      have hu : (l.take (k + 1)).any (fun x => okCl x.f0) = okCl x.f0 := by
        rw [take_snoc HX.out, List.any_append, HA.out]; simp
      have hin : x ∈ l := List.mem_of_getElem? HX.out
      cases hq : okCl x.f0 with
      | false =>
        rw [hq] at hu
        have HU := Aside0.mk hu
        clear hu
        go_wp2_with (go_at_call 23; refine (cl_calls x B cb _).mono ?_; rintro e w' ⟨rfl, hb⟩; rw [hq])
        clear hq
        go_roundw
        case rel => exact ⟨k + 1, hlt, by go_num, HU, ⟨HB.out.trans (hb.mono HB.out.size)⟩⟩
        case measure => simp [intOf]; omega
      | true =>
        have HI := Aside0.mk hin
        have HQ := Aside0.mk hq
        clear hu hin
        go_wp2_with (go_at_call 23; refine (cl_calls x B cb _).mono ?_; rintro e w' ⟨rfl, hb⟩; rw [hq])
        clear hq
        go_ret
        exact ⟨k, rfl, by rw [decide_eq_true (by omega)]; exact (List.any_eq_true.mpr ⟨x, HI.out, HQ.out⟩).symm, HB.out.trans (hb.mono HB.out.size)⟩
    · go_wp2
      go_ret
      obtain rfl : k = l.length := by omega
      exact ⟨-1, rfl, by rw [List.take_length] at HA; rw [HA.out]; rfl, HB.out⟩

set_option maxRecDepth 100000 in
set_option maxHeartbeats 4000000 in
theorem contains_calls (A : Option Addr) (c : Nat) (l : List S53) (w : World) (hC : Kd.C k53 w A l.length l) (hl : l.length ≤ 50) :
    Calls Try.prog 22 #[.slice A l.length c, .func (.func 23) #[] #[]] w fun e w' => e = .returned (.bool (l.any (fun x => okCl x.f0))) ∧ Below w.heap.size w w' := by
  have HC := Aside0.mk hC
  clear hC
  go_enter Try.func22, Try.ntmps22
  go_wp2_with (go_at_call 30; refine (index_calls A c l _ HC.out hl).mono ?_; rintro e w' ⟨r, rfl, hr, hb⟩; have HR := Aside0.mk hr; clear hr)
  go_ret
  exact ⟨by rw [← HR.out]; rfl, hb⟩
end Go.Proofs.Ytobfcppjmocgnaa.Own

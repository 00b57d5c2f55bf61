/-
  history.of$1, the iterator over a client's events, walked by hand.
-/
import Derived.Test.YtobfcppjmocgnaaEv
namespace Go.Proofs.Ytobfcppjmocgnaa.Own
open Go.RowKit Go.Shelf Go.Proofs.YtobfcppjmocgnaaW.PrintWords Go.Proofs.YtobfcppjmocgnaaW.PrintLast Go.Proofs.Ytobfcppjmocgnaa.P
attribute [local go_sem] Oper.semAt_some

/-- A slice of events in memory: hd tells where each one's blocks lie. -/
def Evs (w : World) (A : Option Addr) (l : List S53) (hd : Nat → Option Addr × Nat) : Prop :=
  ∀ k x, l[k]? = some x → ∃ ad, A = some ad ∧ (w.cell? (ad.add (k * 13)) = some (.int .i64 x.f0) ∧ w.cell? ⟨(ad.add (k * 13)).block, (ad.add (k * 13)).off + 1, none⟩ = some (.int .i64 x.f1) ∧ w.cell? ⟨(ad.add (k * 13)).block, (ad.add (k * 13)).off + 2, none⟩ = some (.int .i64 x.f2) ∧
      w.cell? ⟨(ad.add (k * 13)).block, (ad.add (k * 13)).off + 3, none⟩ = some (.int .i64 x.f3.f0) ∧ w.cell? ⟨(ad.add (k * 13)).block, (ad.add (k * 13)).off + 4, none⟩ = some (.int .u64 x.f3.f1) ∧ w.cell? ⟨(ad.add (k * 13)).block, (ad.add (k * 13)).off + 5, none⟩ = some (.int .i64 x.f3.f2) ∧
      w.cell? ⟨(ad.add (k * 13)).block, (ad.add (k * 13)).off + 6, none⟩ = some (.int .i64 x.f3.f3) ∧ w.cell? ⟨(ad.add (k * 13)).block, (ad.add (k * 13)).off + 7, none⟩ = some (.int .i64 x.f3.f4) ∧ w.cell? ⟨(ad.add (k * 13)).block, (ad.add (k * 13)).off + 8, none⟩ = some (.int .u64 x.f3.f5.f0) ∧
      w.cell? ⟨(ad.add (k * 13)).block, (ad.add (k * 13)).off + 9, none⟩ = some (.string x.f3.f5.f1) ∧ w.cell? ⟨(ad.add (k * 13)).block, (ad.add (k * 13)).off + 10, none⟩ = some (.int .i64 x.f4.f0) ∧ w.cell? ⟨(ad.add (k * 13)).block, (ad.add (k * 13)).off + 11, none⟩ = some (.int .i64 x.f4.f1) ∧
      w.cell? ⟨(ad.add (k * 13)).block, (ad.add (k * 13)).off + 12, none⟩ = some (.slice (hd k).1 x.f4.f2.length (hd k).2)) ∧ x.f4.f2.length ≤ (hd k).2 ∧ Kd.string.C w (hd k).1 x.f4.f2.length x.f4.f2
theorem evs_of {w : World} {A : Option Addr} {l : List S53} (h : Kd.C k53 w A l.length l) : ∃ hd, Evs w A l hd := by
  have key : ∀ k, ∃ p : Option Addr × Nat, ∀ x, l[k]? = some x → ∃ ad, A = some ad ∧ (w.cell? (ad.add (k * 13)) = some (.int .i64 x.f0) ∧ w.cell? ⟨(ad.add (k * 13)).block, (ad.add (k * 13)).off + 1, none⟩ = some (.int .i64 x.f1) ∧ w.cell? ⟨(ad.add (k * 13)).block, (ad.add (k * 13)).off + 2, none⟩ = some (.int .i64 x.f2) ∧
      w.cell? ⟨(ad.add (k * 13)).block, (ad.add (k * 13)).off + 3, none⟩ = some (.int .i64 x.f3.f0) ∧ w.cell? ⟨(ad.add (k * 13)).block, (ad.add (k * 13)).off + 4, none⟩ = some (.int .u64 x.f3.f1) ∧ w.cell? ⟨(ad.add (k * 13)).block, (ad.add (k * 13)).off + 5, none⟩ = some (.int .i64 x.f3.f2) ∧
      w.cell? ⟨(ad.add (k * 13)).block, (ad.add (k * 13)).off + 6, none⟩ = some (.int .i64 x.f3.f3) ∧ w.cell? ⟨(ad.add (k * 13)).block, (ad.add (k * 13)).off + 7, none⟩ = some (.int .i64 x.f3.f4) ∧ w.cell? ⟨(ad.add (k * 13)).block, (ad.add (k * 13)).off + 8, none⟩ = some (.int .u64 x.f3.f5.f0) ∧
      w.cell? ⟨(ad.add (k * 13)).block, (ad.add (k * 13)).off + 9, none⟩ = some (.string x.f3.f5.f1) ∧ w.cell? ⟨(ad.add (k * 13)).block, (ad.add (k * 13)).off + 10, none⟩ = some (.int .i64 x.f4.f0) ∧ w.cell? ⟨(ad.add (k * 13)).block, (ad.add (k * 13)).off + 11, none⟩ = some (.int .i64 x.f4.f1) ∧
      w.cell? ⟨(ad.add (k * 13)).block, (ad.add (k * 13)).off + 12, none⟩ = some (.slice p.1 x.f4.f2.length p.2)) ∧ x.f4.f2.length ≤ p.2 ∧ Kd.string.C w p.1 x.f4.f2.length x.f4.f2 := by
    intro k
    by_cases hk : k < l.length
    · obtain ⟨ad, B, c, x, e, hx, hf⟩ := ev_at h k hk
      exact ⟨(B, c), fun y hy => by rw [hx] at hy; cases hy; exact ⟨ad, e, hf⟩⟩
    · exact ⟨(none, 0), fun y hy => by rw [List.getElem?_eq_none (by omega)] at hy; cases hy⟩
  exact ⟨fun k => Classical.choose (key k), fun k x hx => Classical.choose_spec (key k) x hx⟩
theorem Evs.below {w w1 : World} {A : Option Addr} {l : List S53} {hd : Nat → Option Addr × Nat} (h : Evs w A l hd) (hb : Below w.heap.size w w1) : Evs w1 A l hd := by
  intro k x hx
  obtain ⟨ad, e, ⟨h0, h1, h2, h3, h4, h5, h6, h7, h8, h9, h10, h11, h12⟩, hl, hr⟩ := h k x hx
  exact ⟨ad, e, ⟨pw_cell_below hb h0, pw_cell_below hb h1, pw_cell_below hb h2, pw_cell_below hb h3, pw_cell_below hb h4, pw_cell_below hb h5, pw_cell_below hb h6, pw_cell_below hb h7, pw_cell_below hb h8, pw_cell_below hb h9, pw_cell_below hb h10, pw_cell_below hb h11, pw_cell_below hb h12⟩, hl, Kd.C_below hr hb⟩

/-- An event with its place and its blocks' place. -/
abbrev E := Nat × S53 × Option Addr × Nat
def E.enc (x : E) : Array Value := #[.int .i64 x.1, .agg (evc x.2.1 x.2.2.1 x.2.2.2)]
def evl (l : List S53) (hd : Nat → Option Addr × Nat) : List E := (List.range l.length).map fun i => (i, l.getD i z53, hd i)
theorem evl_length (l : List S53) (hd : Nat → Option Addr × Nat) : (evl l hd).length = l.length := by simp [evl]
theorem evl_at {l : List S53} {hd : Nat → Option Addr × Nat} {k : Nat} {x : S53} (h : l[k]? = some x) : (evl l hd)[k]? = some (k, x, hd k) := by
  obtain ⟨hk, rfl⟩ := List.getElem?_eq_some_iff.mp h
  simp [evl, hk, List.getD_eq_getElem?_getD]
/-- Of a client, from a place on. -/
def sel (cl fr : Int) (x : E) : Bool := decide (fr ≤ x.1) && x.2.1.f0 == cl
/-- What lay below n, and two cells, lie as they lay. -/
def Kp2 (n₀ : Nat) (p q : Addr) (A B : World) : Prop := Below n₀ A B ∧ B.cell? p = A.cell? p ∧ B.cell? q = A.cell? q

set_option maxRecDepth 100000 in
set_option maxHeartbeats 8000000 in
theorem of1_in (n : Nat) (hn : 1 ≤ n) (ln Bh Bf Bc : Nat) (A : Option Addr) (c : Nat) (l : List S53) (hd : Nat → Option Addr × Nat) (cl fr : Int) (hl : l.length ≤ 50) (w : World) (hE : Evs w A l hd)
    (J Jx : List E → World → Prop)
    (hY : ∀ pre x W, J pre W → pre.length < l.length + 1 → YieldAt W0 (n - 1) Try.prog ln (E.enc x) W fun e W' =>
      (e = .returned (.bool true) ∧ J (pre ++ [x]) W' ∧ Kp2 w.heap.size ⟨Bf, 0, none⟩ ⟨Bc, 0, none⟩ W W') ∨ (e = .returned (.bool false) ∧ Jx (pre ++ [x]) W'))
    (W : World) (hW : Below w.heap.size w W) (hJ : AbidesFrom W.heap.size J) (hBh : W.cell? ⟨Bh, 0, none⟩ = some (.slice A l.length c)) (hBf : W.cell? ⟨Bf, 0, none⟩ = some (.int .i64 fr)) (hBc : W.cell? ⟨Bc, 0, none⟩ = some (.int .i64 cl)) (h0 : J [] W) :
    CallsIn W0 n Try.prog 33 #[.func (.yield ln) #[] #[], .pointer (some ⟨Bh, 0, none⟩), .pointer (some ⟨Bf, 0, none⟩), .pointer (some ⟨Bc, 0, none⟩)] W fun e W' => (∃ v, e = .returned v) ∧
      ((∃ ys, ys = (evl l hd).filter (sel cl fr) ∧ J ys W') ∨ (∃ pre, (∃ k y, k < l.length ∧ (evl l hd)[k]? = some y ∧ sel cl fr y = true ∧ pre = ((evl l hd).take k).filter (sel cl fr) ++ [y]) ∧ Jx pre W')) := by
  refine callsIn_of_wp Try.func33 rfl trivial ?_ rfl
  simp only [Try.ntmps33, List.size_toArray, List.length_cons, List.length_nil, Nat.reduceAdd, Nat.reduceSub, Array.replicate_succ, Array.replicate_zero, List.push_toArray, List.append_toArray, List.nil_append, List.cons_append]
  gi_wp2
  have HJ := Aside0.mk h0
  have HE := Aside0.mk hE
  clear h0 hE
  gi_loopw [9] (fun v9 wr => ∃ k : Nat, k ≤ l.length ∧ v9 = .int .i64 k ∧ Aside0 (J (((evl l hd).take k).filter (sel cl fr)) wr) ∧ Aside0 (Kp2 w.heap.size ⟨Bf, 0, none⟩ ⟨Bc, 0, none⟩ W wr) ∧ Aside0 (W.heap.size ≤ wr.heap.size)) (fun v9 _ => l.length - (intOf v9).toNat)
  case atStart => exact ⟨0, Nat.zero_le _, rfl, HJ, ⟨Below.refl _ _, rfl, rfl⟩, ⟨Nat.le_refl _⟩⟩
  case round =>
    clear HJ
    obtain ⟨k, hk, rfl, HA, HK, HZ⟩ := hrel
    by_cases hlt : k < l.length
    · obtain ⟨x, hx⟩ : ∃ x, l[k]? = some x := ⟨_, List.getElem?_eq_getElem hlt⟩
      have hBf' := HK.out.2.1.trans hBf
      have hBc' := HK.out.2.2.trans hBc
      obtain ⟨ad, rfl, ⟨e0, e1, e2, e3, e4, e5, e6, e7, e8, e9, e10, e11, e12⟩, -, -⟩ := (HE.out.below (hW.trans HK.out.1)) k x hx
      have hlf := World.block_lt_of_cell? wr _ hBf'
      have hlc := World.block_lt_of_cell? wr _ hBc'
      simp only at hlf hlc
      have hy0 := evl_at (hd := hd) hx
      have HT := Aside0.mk (take_snoc hy0)
      have HX := Aside0.mk hy0
      clear hx hy0
      have HJ1 : Aside0 (J (((evl l hd).take k).filter (sel cl fr)) (wr.alloc (.cells (evc x (hd k).1 (hd k).2) 53))) := ⟨hJ _ wr _ none HA.out (grown_of_below ((Below.refl _ wr).alloc (Nat.le_refl _) _) none) (fun r e => by cases e)⟩
      have HK1 : Aside0 (Kp2 w.heap.size ⟨Bf, 0, none⟩ ⟨Bc, 0, none⟩ W (wr.alloc (.cells (evc x (hd k).1 (hd k).2) 53))) := ⟨HK.out.1.trans ((Below.refl _ wr).alloc (Nat.le_trans hW.size HZ.out) _), by
        refine Eq.trans ?_ HK.out.2.1; exact ((Below.refl wr.heap.size wr).alloc (Nat.le_refl _) _).cell (p := ⟨Bf, 0, none⟩) hlf, by
        refine Eq.trans ?_ HK.out.2.2; exact ((Below.refl wr.heap.size wr).alloc (Nat.le_refl _) _).cell (p := ⟨Bc, 0, none⟩) hlc⟩
      by_cases hf : fr ≤ k
      · by_cases hc : x.f0 = cl
        · have hb : (x.f0 == cl) = true := by simp [hc]
          have HS : Aside0 (sel cl fr (k, x, hd k) = true) := ⟨by simp [sel, hf, hc]⟩
          clear hc
          obtain ⟨fn, tmps, assign, body, hy, hR⟩ := hY (((evl l hd).take k).filter (sel cl fr)) (k, x, hd k) _ HJ1.out (by
            refine Nat.lt_succ_of_le (Nat.le_trans (List.length_filter_le _ _) ?_)
            rw [List.length_take]; exact Nat.le_trans (Nat.min_le_right _ _) (by rw [evl_length]; exact Nat.le_refl _))
          simp only [E.enc, evc] at hy hR
          gi_wp2
          refine hR.mono ?_
          rintro e W3 (⟨rfl, hJ3, hk3⟩ | ⟨rfl, hJx3⟩)
          · gi_wp2
            go_roundw
            case rel => exact ⟨k + 1, hlt, by go_num, ⟨by rw [HT.out, List.filter_append]; simp only [List.filter_cons, HS.out, List.filter_nil, if_true]; exact hJ3⟩, ⟨HK1.out.1.trans hk3.1, hk3.2.1.trans HK1.out.2.1, hk3.2.2.trans HK1.out.2.2⟩, ⟨Nat.le_trans HK1.out.1.size hk3.1.size⟩⟩
            case measure => simp [intOf]; omega
          · gi_wp2
            refine bodyPost_ret (results_none rfl _ _ _) rfl ?_
            exact ⟨⟨_, rfl⟩, .inr ⟨_, ⟨k, _, hlt, HX.out, HS.out, rfl⟩, hJx3⟩⟩
        · have hb : (x.f0 == cl) = false := by simp [hc]
          have HS : Aside0 (sel cl fr (k, x, hd k) = false) := ⟨by simp [sel, hc]⟩
          clear hc
          gi_wp2
          refine ⟨fun f hf => (by cases hf), ?_⟩
          gi_wp2
          go_roundw
          case rel => exact ⟨k + 1, hlt, by go_num, ⟨by rw [HT.out, List.filter_append]; simp only [List.filter_cons, HS.out, List.filter_nil, Bool.false_eq_true, if_false, List.append_nil]; exact HJ1.out⟩, HK1, ⟨by have := HZ.out; simp; omega⟩⟩
          case measure => simp [intOf]; omega
      · have HS : Aside0 (sel cl fr (k, x, hd k) = false) := ⟨by simp [sel]; omega⟩
        gi_wp2
        refine ⟨fun f hf => (by cases hf), ?_⟩
        gi_wp2
        go_roundw
        case rel => exact ⟨k + 1, hlt, by go_num, ⟨by rw [HT.out, List.filter_append]; simp only [List.filter_cons, HS.out, List.filter_nil, Bool.false_eq_true, if_false, List.append_nil]; exact HJ1.out⟩, HK1, ⟨by have := HZ.out; simp; omega⟩⟩
        case measure => simp [intOf]; omega
    · obtain rfl : k = l.length := by omega
      have HJ2 : Aside0 (J ((evl l hd).filter (sel cl fr)) wr) := ⟨by have := HA.out; rwa [← evl_length l hd, List.take_length] at this⟩
      gi_wp2
      go_end0
      exact ⟨⟨_, rfl⟩, .inl ⟨_, rfl, HJ2.out⟩⟩

/-- What the iterator hands over ahead of a stop. -/
def Part (l : List S53) (hd : Nat → Option Addr × Nat) (cl fr : Int) (pre : List E) : Prop :=
  ∃ k y, k < l.length ∧ (evl l hd)[k]? = some y ∧ sel cl fr y = true ∧ pre = ((evl l hd).take k).filter (sel cl fr) ++ [y]
theorem of_stops (n : Nat) (hn : 1 ≤ n) (Bh Bf Bc : Nat) (A : Option Addr) (c : Nat) (l : List S53) (hd : Nat → Option Addr × Nat) (cl fr : Int) (hl : l.length ≤ 50) (w : World) (hE : Evs w A l hd) (w1 : World) (hw1 : Below w.heap.size w w1)
    (hBh : w1.cell? ⟨Bh, 0, none⟩ = some (.slice A l.length c)) (hBf : w1.cell? ⟨Bf, 0, none⟩ = some (.int .i64 fr)) (hBc : w1.cell? ⟨Bc, 0, none⟩ = some (.int .i64 cl)) :
    SeqStopsK W0 n Try.prog 33 #[.pointer (some ⟨Bh, 0, none⟩), .pointer (some ⟨Bf, 0, none⟩), .pointer (some ⟨Bc, 0, none⟩)] E.enc (Kp2 w.heap.size ⟨Bf, 0, none⟩ ⟨Bc, 0, none⟩)
      (fun ys => ys = (evl l hd).filter (sel cl fr)) (Part l hd cl fr) (l.length + 1) w1 := fun ln J Jx W hW hJ _ hY h0 =>
  of1_in n hn ln Bh Bf Bc A c l hd cl fr hl w hE J Jx hY W (hw1.trans (hW.mono hw1.size)) hJ (pw_cell_below hW hBh) (pw_cell_below hW hBf) (pw_cell_below hW hBc) h0
end Go.Proofs.Ytobfcppjmocgnaa.Own

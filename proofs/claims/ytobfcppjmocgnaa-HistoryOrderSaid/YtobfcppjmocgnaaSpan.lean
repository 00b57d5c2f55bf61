/-
  history.span, the span of an event that begins a call, walked by hand.
-/
import Derived.Test.YtobfcppjmocgnaaOwn
namespace Go.Proofs.Ytobfcppjmocgnaa.Own
open Go.RowKit Go.Shelf Go.Proofs.YtobfcppjmocgnaaW.PrintWords Go.Proofs.YtobfcppjmocgnaaW.PrintLast Go.Proofs.Ytobfcppjmocgnaa.P
attribute [local go_sem] Oper.semAt_some
set_option linter.unusedVariables false

/-- A span's cells. -/
def spc (s : S41) (B : Option Addr) (c : Nat) : Array Value := #[.int .i64 s.f0, .int .i64 s.f1, .int .i64 s.f2.f0, .int .u64 s.f2.f1, .int .i64 s.f2.f2, .int .i64 s.f2.f3, .int .i64 s.f2.f4, .int .u64 s.f2.f5.f0, .string s.f2.f5.f1, .int .i64 s.f3.f0, .int .i64 s.f3.f1, .slice B s.f3.f2.length c, .int .i64 s.f4, .int .i64 s.f5]
/-- The span of an event at a place, by what is behind it of its client. -/
def spanV (x : S53) (at_ : Int) : Option E → S41
  | none => ⟨x.f0, x.f2, x.f3, z39, at_, -1⟩
  | some y => ⟨x.f0, x.f2, x.f3, y.2.1.f4, at_, y.1⟩
def hdV : Option E → Option Addr × Nat
  | none => (none, 0)
  | some y => y.2.2
/-- What is behind an event, of its client. -/
def nextE (l : List S53) (hd : Nat → Option Addr × Nat) (k : Nat) (x : S53) : Option E := ((evl l hd).filter (sel x.f0 (k + 1 : Nat))).head?
theorem spc_cells {W : World} {g : Nat} {s : S41} {A : Option Addr} {c : Nat} (h : W.heap[g]? = some (.cells (spc s A c) 41 (0, 0))) : W.cell? ⟨g, 0, none⟩ = some (.int .i64 s.f0) ∧ W.cell? ⟨g, 1, none⟩ = some (.int .i64 s.f1) ∧ W.cell? ⟨g, 2, none⟩ = some (.int .i64 s.f2.f0) ∧
    W.cell? ⟨g, 3, none⟩ = some (.int .u64 s.f2.f1) ∧ W.cell? ⟨g, 4, none⟩ = some (.int .i64 s.f2.f2) ∧ W.cell? ⟨g, 5, none⟩ = some (.int .i64 s.f2.f3) ∧ W.cell? ⟨g, 6, none⟩ = some (.int .i64 s.f2.f4) ∧ W.cell? ⟨g, 7, none⟩ = some (.int .u64 s.f2.f5.f0) ∧
    W.cell? ⟨g, 8, none⟩ = some (.string s.f2.f5.f1) ∧ W.cell? ⟨g, 9, none⟩ = some (.int .i64 s.f3.f0) ∧ W.cell? ⟨g, 10, none⟩ = some (.int .i64 s.f3.f1) ∧ W.cell? ⟨g, 11, none⟩ = some (.slice A s.f3.f2.length c) ∧ W.cell? ⟨g, 12, none⟩ = some (.int .i64 s.f4) ∧ W.cell? ⟨g, 13, none⟩ = some (.int .i64 s.f5) :=
  ⟨blk_cell h 0, blk_cell h 1, blk_cell h 2, blk_cell h 3, blk_cell h 4, blk_cell h 5, blk_cell h 6, blk_cell h 7, blk_cell h 8, blk_cell h 9, blk_cell h 10, blk_cell h 11, blk_cell h 12, blk_cell h 13⟩
/-- What holds ahead of the loop's one round. -/
def SpI (w : World) (s : S41) (pre : List E) (W : World) : Prop :=
  (W.heap[w.heap.size]? = some (.cells (spc ⟨0, 0, z36, z39, 0, 0⟩ none 0) 41 (0, 0)) ∧ W.heap[w.heap.size + 1 + 1]? = some (.cells (spc s none 0) 41 (0, 0))) ∧ Below w.heap.size w W ∧ w.heap.size + 6 ≤ W.heap.size ∧ pre = []
/-- What holds where the round has left the loop. -/
def SpX (w : World) (x : S53) (at_ : Int) (c : Code) (pre : List E) (W : World) : Prop := (∃ y, c = .exit 0 ∧ pre = [y] ∧ W.heap[w.heap.size]? = some (.cells (spc ⟨0, 0, z36, z39, 0, 0⟩ none 0) 41 (0, 0)) ∧ W.heap[w.heap.size + 1 + 1]? = some (.cells (spc (spanV x at_ (some y)) y.2.2.1 y.2.2.2) 41 (0, 0))) ∧ Below w.heap.size w W
theorem SpI_own (w : World) (s : S41) (B : Nat) (hB : w.heap.size ≤ B) : OwnFrom B (SpI w s) :=
  OwnFrom.and (Own.from (fun s' X Y row h hg hr => ⟨own_kept _ _ (fun _ : List E => spc ⟨0, 0, z36, z39, 0, 0⟩ none 0) s' X Y row h.1 hg hr, own_kept _ _ (fun _ : List E => spc s none 0) s' X Y row h.2 hg hr⟩) _)
    (OwnFrom.and (ownFrom_below (Nat.le_refl _) hB) (Own.from (fun _ _ _ _ h hg _ => ⟨Nat.le_trans h.1 hg.size, h.2⟩) _))
theorem SpX_own (w : World) (x : S53) (at_ : Int) (B : Nat) (hB : w.heap.size ≤ B) (c : Code) : OwnFrom B (SpX w x at_ c) :=
  OwnFrom.and (Own.from (fun s' X Y row h hg hr => by
    obtain ⟨y, h1, h2, h3, h4⟩ := h
    exact ⟨y, h1, h2, own_kept _ _ (fun _ : List E => spc ⟨0, 0, z36, z39, 0, 0⟩ none 0) s' X Y row h3 hg hr, own_kept _ _ (fun _ : List E => spc (spanV x at_ (some y)) y.2.2.1 y.2.2.2) s' X Y row h4 hg hr⟩) _) (ownFrom_below (Nat.le_refl _) hB)
/-- A round's event lies in a box of its own. -/
def SpA (w : World) (ad : Addr) (m c k : Nat) (x : S53) (B : Option Addr) (cb : Nat) (y : E) (a : Act) (W : World) : Prop := ∃ g, w.heap.size + 6 ≤ g ∧ W.heap[g]? = some (.cells (evc y.2.1 y.2.2.1 y.2.2.2) 53 (0, 0)) ∧
  a = { tmps := #[.slice (some ad) m c, .int .i64 k, undef, undef, .pointer (some ⟨w.heap.size, 0, none⟩), .pointer (some ⟨w.heap.size + 1, 0, none⟩), .pointer (some ⟨w.heap.size + 1 + 1, 0, none⟩), .int .i64 y.1, .pointer (some ⟨g, 0, none⟩), .slice (some ad) m c, .int .i64 k, .pointer (some (ad.add (k * 13))), .agg (evc x B cb), .pointer (some ⟨w.heap.size + 1, 0, none⟩), .int .i64 x.f0, .pointer (some ⟨w.heap.size + 1, 2, none⟩), .int .i64 x.f2, .pointer (some ⟨w.heap.size + 1, 3, none⟩), .agg #[.int .i64 x.f3.f0, .int .u64 x.f3.f1, .int .i64 x.f3.f2, .int .i64 x.f3.f3, .int .i64 x.f3.f4, .int .u64 x.f3.f5.f0, .string x.f3.f5.f1], .int .i64 k, .agg (spc (spanV x k none) none 0), .slice (some ad) m c, .pointer (some ⟨w.heap.size + 1, 0, none⟩), .int .i64 x.f0, .int .i64 k, .int .i64 ((k : Int) + 1), .func (.func 33) #[] #[.pointer (some ⟨w.heap.size + 1 + 1 + 1, 0, none⟩), .pointer (some ⟨w.heap.size + 1 + 1 + 1 + 1 + 1, 0, none⟩), .pointer (some ⟨w.heap.size + 1 + 1 + 1 + 1, 0, none⟩)], .int .i64 y.1, .agg (evc y.2.1 y.2.2.1 y.2.2.2), undef, undef, undef, undef, undef, undef], defers := [] }
theorem SpA_own (w : World) (ad : Addr) (m c k : Nat) (x : S53) (B0 : Option Addr) (cb : Nat) (B : Nat) (y : E) (a : Act) : OwnFrom B (fun (_ : Unit) W => SpA w ad m c k x B0 cb y a W) :=
  Own.from (fun s X Y row h hg hr => by
    obtain ⟨g, h1, h2, h3⟩ := h
    exact ⟨g, h1, own_kept _ _ (fun _ : Unit => evc y.2.1 y.2.2.1 y.2.2.2) s X Y row h2 hg hr, h3⟩) _
set_option maxRecDepth 100000 in
set_option maxHeartbeats 8000000 in
theorem span_in (n : Nat) (hn : 3 ≤ n) (A : Option Addr) (c : Nat) (l : List S53) (hd : Nat → Option Addr × Nat) (k : Nat) (x : S53) (hx : l[k]? = some x) (hl : l.length ≤ 50) (w : World) (hE : Evs w A l hd) :
    CallsIn W0 n Try.prog 21 #[.slice A l.length c, .int .i64 k] w fun e W' => e = .returned (.agg (spc (spanV x k (nextE l hd k x)) (hdV (nextE l hd k x)).1 (hdV (nextE l hd k x)).2)) ∧ Below w.heap.size w W' := by
  have hmix : Try.prog.follows .mixedOrders = true := by kernel_rfl
  have h1 : 1 ≤ n := by omega
  have hk : k < l.length := (List.getElem?_eq_some_iff.mp hx).1
  have HE := Aside0.mk hE
  obtain ⟨ad, rfl, ⟨e0, e1, e2, e3, e4, e5, e6, e7, e8, e9, e10, e11, e12⟩, -, -⟩ := hE k x hx
  have hbl : (ad.add (k * 13)).block < w.heap.size := World.block_lt_of_cell? _ _ e0
  have HX := Aside0.mk hx
  clear hE hx
  refine callsIn_of_wp_marks Try.func21 rfl trivial ?_ rfl
  simp only [Try.ntmps21, List.size_toArray, List.length_cons, List.length_nil, Nat.reduceAdd, Nat.reduceSub, Array.replicate_succ, Array.replicate_zero, List.push_toArray, List.append_toArray, List.nil_append, List.cons_append]
  gi_wp2_with (refine ⟨trivial, ?_⟩; gi_at_call 29; refine (of_in W0 (n - 1) trivial rfl (some ad) l.length c x.f0 (k + 1) _).mono ?_; rintro e w' ⟨rfl, rfl⟩)
  obtain ⟨W1, hW1⟩ : ∃ W1, ((((((w.alloc (.cells (spc ⟨0, 0, z36, z39, 0, 0⟩ none 0) 41)).alloc (.cells (evc x (hd k).1 (hd k).2) 53)).alloc (.cells (spc (spanV x k none) none 0) 41)).alloc (.cells #[.slice (some ad) l.length c] 22)).alloc (.cells #[.int .i64 x.f0] 3)).alloc (.cells #[.int .i64 ((k : Int) + 1)] 3)) = W1 := ⟨_, rfl⟩
  have hs : W1.heap.size = w.heap.size + 6 := by rw [← hW1]; simp
  have hBW : Below w.heap.size w W1 := by
    rw [← hW1]; exact ((((((Below.refl _ w).alloc (Nat.le_refl _) _).alloc (by simp <;> omega) _).alloc (by simp <;> omega) _).alloc (by simp <;> omega) _).alloc (by simp <;> omega) _).alloc (by simp <;> omega) _
  have q0 : W1.heap[w.heap.size]? = some (.cells (spc ⟨0, 0, z36, z39, 0, 0⟩ none 0) 41 (0, 0)) := by
    rw [← hW1]
    have := blk_new w (.cells (spc ⟨0, 0, z36, z39, 0, 0⟩ none 0) 41)
    exact blk_alloc (blk_alloc (blk_alloc (blk_alloc (blk_alloc this _) _) _) _) _
  have q2 : W1.heap[w.heap.size + 1 + 1]? = some (.cells (spc (spanV x k none) none 0) 41 (0, 0)) := by
    rw [← hW1]
    have := blk_new ((w.alloc (.cells (spc ⟨0, 0, z36, z39, 0, 0⟩ none 0) 41)).alloc (.cells (evc x (hd k).1 (hd k).2) 53)) (.cells (spc (spanV x k none) none 0) 41)
    rw [World.size_alloc, World.size_alloc] at this
    exact blk_alloc (blk_alloc (blk_alloc this _) _) _
  have q3 : W1.cell? ⟨w.heap.size + 1 + 1 + 1, 0, none⟩ = some (.slice (some ad) l.length c) := by
    rw [← hW1]
    have := blk_new (((w.alloc (.cells (spc ⟨0, 0, z36, z39, 0, 0⟩ none 0) 41)).alloc (.cells (evc x (hd k).1 (hd k).2) 53)).alloc (.cells (spc (spanV x k none) none 0) 41)) (.cells #[.slice (some ad) l.length c] 22)
    rw [World.size_alloc, World.size_alloc, World.size_alloc] at this
    exact (blk_cell (blk_alloc (blk_alloc this _) _) 0).trans rfl
  have q4 : W1.cell? ⟨w.heap.size + 1 + 1 + 1 + 1, 0, none⟩ = some (.int .i64 x.f0) := by
    rw [← hW1]
    have := blk_new ((((w.alloc (.cells (spc ⟨0, 0, z36, z39, 0, 0⟩ none 0) 41)).alloc (.cells (evc x (hd k).1 (hd k).2) 53)).alloc (.cells (spc (spanV x k none) none 0) 41)).alloc (.cells #[.slice (some ad) l.length c] 22)) (.cells #[.int .i64 x.f0] 3)
    rw [World.size_alloc, World.size_alloc, World.size_alloc, World.size_alloc] at this
    exact (blk_cell (blk_alloc this _) 0).trans rfl
  have q5 : W1.cell? ⟨w.heap.size + 1 + 1 + 1 + 1 + 1, 0, none⟩ = some (.int .i64 (k + 1 : Nat)) := by
    rw [← hW1]
    have := blk_new (((((w.alloc (.cells (spc ⟨0, 0, z36, z39, 0, 0⟩ none 0) 41)).alloc (.cells (evc x (hd k).1 (hd k).2) 53)).alloc (.cells (spc (spanV x k none) none 0) 41)).alloc (.cells #[.slice (some ad) l.length c] 22)).alloc (.cells #[.int .i64 x.f0] 3)) (.cells #[.int .i64 ((k : Int) + 1)] 3)
    rw [World.size_alloc, World.size_alloc, World.size_alloc, World.size_alloc, World.size_alloc] at this
    exact (blk_cell (this) 0).trans rfl
  change Code.wpIn _ _ _ _ _ { tmps := #[.slice (some ad) l.length c, .int .i64 k, undef, undef, .pointer (some ⟨w.heap.size, 0, none⟩), .pointer (some ⟨w.heap.size + 1, 0, none⟩), .pointer (some ⟨w.heap.size + 1 + 1, 0, none⟩), undef, undef, .slice (some ad) l.length c, .int .i64 k, .pointer (some (ad.add (k * 13))), .agg (evc x (hd k).1 (hd k).2), .pointer (some ⟨w.heap.size + 1, 0, none⟩), .int .i64 x.f0, .pointer (some ⟨w.heap.size + 1, 2, none⟩), .int .i64 x.f2, .pointer (some ⟨w.heap.size + 1, 3, none⟩), .agg #[.int .i64 x.f3.f0, .int .u64 x.f3.f1, .int .i64 x.f3.f2, .int .i64 x.f3.f3, .int .i64 x.f3.f4, .int .u64 x.f3.f5.f0, .string x.f3.f5.f1], .int .i64 k, .agg (spc (spanV x k none) none 0), .slice (some ad) l.length c, .pointer (some ⟨w.heap.size + 1, 0, none⟩), .int .i64 x.f0, .int .i64 k, .int .i64 ((k : Int) + 1), .func (.func 33) #[] #[.pointer (some ⟨w.heap.size + 1 + 1 + 1, 0, none⟩), .pointer (some ⟨w.heap.size + 1 + 1 + 1 + 1 + 1, 0, none⟩), .pointer (some ⟨w.heap.size + 1 + 1 + 1 + 1, 0, none⟩)], undef, undef, undef, undef, undef, undef, undef, undef], defers := [] } ((((((w.alloc (.cells (spc ⟨0, 0, z36, z39, 0, 0⟩ none 0) 41)).alloc (.cells (evc x (hd k).1 (hd k).2) 53)).alloc (.cells (spc (spanV x k none) none 0) 41)).alloc (.cells #[.slice (some ad) l.length c] 22)).alloc (.cells #[.int .i64 x.f0] 3)).alloc (.cells #[.int .i64 ((k : Int) + 1)] 3))
  rw [hW1]
  clear hW1
  refine wpIn_rangeFunc_ownH rfl h1 (gf := 33) (lb := #[.pointer (some ⟨w.heap.size + 1 + 1 + 1, 0, none⟩), .pointer (some ⟨w.heap.size + 1 + 1 + 1 + 1 + 1, 0, none⟩), .pointer (some ⟨w.heap.size + 1 + 1 + 1 + 1, 0, none⟩)]) rfl trivial (enters_of Try.func33 (by kernel_rfl) rfl)
    (of_stops (n - 1) (by omega) _ _ _ (some ad) c l hd x.f0 (k + 1 : Nat) hl w HE.out W1 hBW q3 q5 q4) Kp2.trans (Kp2.put (by omega) (by simp; omega) (by simp; omega)) (Below.refl _ _) (fun _ => rfl)
    (SpI w (spanV x k none)) (SpX w x k) (SpI_own w _ _ (by omega)) (SpX_own w x k _ (by omega)) ⟨⟨q0, q2⟩, hBW, Nat.le_of_eq hs.symm, rfl⟩ (SpA w ad l.length c k x (hd k).1 (hd k).2) (SpA_own w ad l.length c k x (hd k).1 (hd k).2 _) ?assign ?body ?done ?stop
  case assign =>
    rintro ln pre y W K hI hK
    simp only [E.enc, evc]
    gi_wp2
    have hsz : w.heap.size + 6 ≤ W.heap.size := hI.2.2.1
    have hb := (Below.refl W.heap.size W).alloc (Nat.le_refl _) (.cells (evc y.2.1 y.2.2.1 y.2.2.2) 53)
    refine hK _ (W.alloc (.cells (evc y.2.1 y.2.2.1 y.2.2.2) 53)) ((KeepsOthers.alloc _ _).from _) ⟨(Below.refl _ W).alloc (by omega) _, hb.cell (by simp; omega), hb.cell (by simp; omega)⟩ (OwnFrom.alloc (SpI_own w _ W.heap.size (by omega)) _ hI) ⟨W.heap.size, hsz, blk_new W _, rfl⟩
  case body =>
    rintro ln pre y a' W - - ⟨⟨p0, p2⟩, hB, hsz, rfl⟩ ⟨g, hg, hgx, rfl⟩ hlt
    obtain ⟨i, y, Ay, cy⟩ := y
    simp only at hgx ⊢
    have HB := Aside0.mk hB
    obtain ⟨a0, a1, a2, a3, a4, a5, a6, a7, a8, a9, a10, a11, a12⟩ := evc_cells hgx
    obtain ⟨b0, b1, b2, b3, b4, b5, b6, b7, b8, b9, b10, b11, b12, b13⟩ := spc_cells p2
    have f2 := blk_frozen p2
    have Hp0 := Aside0.mk p0
    have Hp2 := Aside0.mk p2
    clear hB hsz p0 p2 hgx
    have FIN : ∀ a, ownPostG W1.heap.size
        (Kp2 w.heap.size ⟨w.heap.size + 1 + 1 + 1 + 1 + 1, 0, none⟩ ⟨w.heap.size + 1 + 1 + 1 + 1, 0, none⟩) (SpI w (spanV x k none)) (SpX w x k) ([] ++ [(i, y, Ay, cy)]) W (Exit.exit 0) a ((((W.setCell ⟨w.heap.size + 1 + 1, 13, none⟩ (.int .i64 i)).setCell ⟨w.heap.size + 1 + 1, 9, none⟩ (.int .i64 y.f4.f0)).setCell ⟨w.heap.size + 1 + 1, 10, none⟩ (.int .i64 y.f4.f1)).setCell ⟨w.heap.size + 1 + 1, 11, none⟩ (.slice Ay y.f4.f2.length cy)).drew := fun a =>
      ⟨(((((KeepsOthers.setCell W _ _).trans (KeepsOthers.setCell _ _ _)).trans (KeepsOthers.setCell _ _ _)).trans (KeepsOthers.setCell _ _ _)).trans (KeepsOthers.drew _)).from _,
       ⟨(i, y, Ay, cy), rfl, rfl, ((Below.heap_setCell _ _ _ _ (by simp <;> omega)).trans ((Below.heap_setCell _ _ _ _ (by simp <;> omega)).trans ((Below.heap_setCell _ _ _ _ (by simp <;> omega)).trans (Below.heap_setCell _ _ _ _ (by simp <;> omega))))).trans Hp0.out,
        (blk_set (blk_set (blk_set (blk_set Hp2.out 13 _) 9 _) 10 _) 11 _).trans rfl⟩,
       ((((HB.out.setCell (p := ⟨w.heap.size + 1 + 1, 13, none⟩) (by simp <;> omega) _).setCell (p := ⟨w.heap.size + 1 + 1, 9, none⟩) (by simp <;> omega) _).setCell (p := ⟨w.heap.size + 1 + 1, 10, none⟩) (by simp <;> omega) _).setCell (p := ⟨w.heap.size + 1 + 1, 11, none⟩) (by simp <;> omega) _).drew⟩
    simp only [evc, spc]
    gi_wp2
    gi_region_with_o (fail)
    all_goals gi_wp2
    all_goals exact FIN _
  case done =>
    rintro D ys W hD rfl ⟨⟨p0, p2⟩, hB, hsz, hnil⟩ hK
    have HN : Aside0 (nextE l hd k x = none) := ⟨by unfold nextE; rw [hnil]; rfl⟩
    obtain ⟨b0, b1, b2, b3, b4, b5, b6, b7, b8, b9, b10, b11, b12, b13⟩ := spc_cells p2
    obtain ⟨d0, d1, d2, d3, d4, d5, d6, d7, d8, d9, d10, d11, d12, d13⟩ := spc_cells p0
    have f0 := blk_frozen p0
    obtain ⟨r1, -, -, r4, r5⟩ := putL_spec w.heap.size 41 (spc (spanV x k none) none 0).toList 0 W (spc ⟨0, 0, z36, z39, 0, 0⟩ none 0) p0 rfl
    have HR1 : Aside0 (((((((((((((((W.setCell ⟨w.heap.size, 0, none⟩ (.int .i64 (spanV x k none).f0)).setCell ⟨w.heap.size, 1, none⟩ (.int .i64 (spanV x k none).f1)).setCell ⟨w.heap.size, 2, none⟩ (.int .i64 (spanV x k none).f2.f0)).setCell ⟨w.heap.size, 3, none⟩ (.int .u64 (spanV x k none).f2.f1)).setCell ⟨w.heap.size, 4, none⟩ (.int .i64 (spanV x k none).f2.f2)).setCell ⟨w.heap.size, 5, none⟩ (.int .i64 (spanV x k none).f2.f3)).setCell ⟨w.heap.size, 6, none⟩ (.int .i64 (spanV x k none).f2.f4)).setCell ⟨w.heap.size, 7, none⟩ (.int .u64 (spanV x k none).f2.f5.f0)).setCell ⟨w.heap.size, 8, none⟩ (.string (spanV x k none).f2.f5.f1)).setCell ⟨w.heap.size, 9, none⟩ (.int .i64 (spanV x k none).f3.f0)).setCell ⟨w.heap.size, 10, none⟩ (.int .i64 (spanV x k none).f3.f1)).setCell ⟨w.heap.size, 11, none⟩ (.slice none (spanV x k none).f3.f2.length 0)).setCell ⟨w.heap.size, 12, none⟩ (.int .i64 (spanV x k none).f4)).setCell ⟨w.heap.size, 13, none⟩ (.int .i64 (spanV x k none).f5)).heap[w.heap.size]? = some (.cells (spc (spanV x k none) none 0) 41 (0, 0))) := ⟨r1.trans rfl⟩
    have HR4 : Aside0 (Below w.heap.size W ((((((((((((((W.setCell ⟨w.heap.size, 0, none⟩ (.int .i64 (spanV x k none).f0)).setCell ⟨w.heap.size, 1, none⟩ (.int .i64 (spanV x k none).f1)).setCell ⟨w.heap.size, 2, none⟩ (.int .i64 (spanV x k none).f2.f0)).setCell ⟨w.heap.size, 3, none⟩ (.int .u64 (spanV x k none).f2.f1)).setCell ⟨w.heap.size, 4, none⟩ (.int .i64 (spanV x k none).f2.f2)).setCell ⟨w.heap.size, 5, none⟩ (.int .i64 (spanV x k none).f2.f3)).setCell ⟨w.heap.size, 6, none⟩ (.int .i64 (spanV x k none).f2.f4)).setCell ⟨w.heap.size, 7, none⟩ (.int .u64 (spanV x k none).f2.f5.f0)).setCell ⟨w.heap.size, 8, none⟩ (.string (spanV x k none).f2.f5.f1)).setCell ⟨w.heap.size, 9, none⟩ (.int .i64 (spanV x k none).f3.f0)).setCell ⟨w.heap.size, 10, none⟩ (.int .i64 (spanV x k none).f3.f1)).setCell ⟨w.heap.size, 11, none⟩ (.slice none (spanV x k none).f3.f2.length 0)).setCell ⟨w.heap.size, 12, none⟩ (.int .i64 (spanV x k none).f4)).setCell ⟨w.heap.size, 13, none⟩ (.int .i64 (spanV x k none).f5))) := ⟨r4 _ (Nat.le_refl _)⟩
    have HK5 : Aside0 (((((((((((((((W.setCell ⟨w.heap.size, 0, none⟩ (.int .i64 (spanV x k none).f0)).setCell ⟨w.heap.size, 1, none⟩ (.int .i64 (spanV x k none).f1)).setCell ⟨w.heap.size, 2, none⟩ (.int .i64 (spanV x k none).f2.f0)).setCell ⟨w.heap.size, 3, none⟩ (.int .u64 (spanV x k none).f2.f1)).setCell ⟨w.heap.size, 4, none⟩ (.int .i64 (spanV x k none).f2.f2)).setCell ⟨w.heap.size, 5, none⟩ (.int .i64 (spanV x k none).f2.f3)).setCell ⟨w.heap.size, 6, none⟩ (.int .i64 (spanV x k none).f2.f4)).setCell ⟨w.heap.size, 7, none⟩ (.int .u64 (spanV x k none).f2.f5.f0)).setCell ⟨w.heap.size, 8, none⟩ (.string (spanV x k none).f2.f5.f1)).setCell ⟨w.heap.size, 9, none⟩ (.int .i64 (spanV x k none).f3.f0)).setCell ⟨w.heap.size, 10, none⟩ (.int .i64 (spanV x k none).f3.f1)).setCell ⟨w.heap.size, 11, none⟩ (.slice none (spanV x k none).f3.f2.length 0)).setCell ⟨w.heap.size, 12, none⟩ (.int .i64 (spanV x k none).f4)).setCell ⟨w.heap.size, 13, none⟩ (.int .i64 (spanV x k none).f5)).heap[D]? = some (.deferred (some []))) := ⟨r5.same D _ hK rfl⟩
    have HB := Aside0.mk hB
    clear p0 p2 r1 r4 r5 hB
    gi_wp2
    have hK' := HK5.out
    refine ⟨by simp, .inl ⟨_, _, rfl, run_takeDeferred hK', ?_⟩⟩
    have hh : (World.putObj ((((((((((((((W.setCell ⟨w.heap.size, 0, none⟩ (.int .i64 (spanV x k none).f0)).setCell ⟨w.heap.size, 1, none⟩ (.int .i64 (spanV x k none).f1)).setCell ⟨w.heap.size, 2, none⟩ (.int .i64 (spanV x k none).f2.f0)).setCell ⟨w.heap.size, 3, none⟩ (.int .u64 (spanV x k none).f2.f1)).setCell ⟨w.heap.size, 4, none⟩ (.int .i64 (spanV x k none).f2.f2)).setCell ⟨w.heap.size, 5, none⟩ (.int .i64 (spanV x k none).f2.f3)).setCell ⟨w.heap.size, 6, none⟩ (.int .i64 (spanV x k none).f2.f4)).setCell ⟨w.heap.size, 7, none⟩ (.int .u64 (spanV x k none).f2.f5.f0)).setCell ⟨w.heap.size, 8, none⟩ (.string (spanV x k none).f2.f5.f1)).setCell ⟨w.heap.size, 9, none⟩ (.int .i64 (spanV x k none).f3.f0)).setCell ⟨w.heap.size, 10, none⟩ (.int .i64 (spanV x k none).f3.f1)).setCell ⟨w.heap.size, 11, none⟩ (.slice none (spanV x k none).f3.f2.length 0)).setCell ⟨w.heap.size, 12, none⟩ (.int .i64 (spanV x k none).f4)).setCell ⟨w.heap.size, 13, none⟩ (.int .i64 (spanV x k none).f5)) D (.deferred none)).heap[w.heap.size]? = _ := (World.putObj_heap_other (by have := hs; omega)).trans HR1.out
    obtain ⟨g0, g1, g2, g3, g4, g5, g6, g7, g8, g9, g10, g11, g12, g13⟩ := spc_cells hh
    refine ⟨.agg (spc (spanV x k none) none 0), ?_, by rw [HN.out]; rfl, (HB.out.trans HR4.out).trans (belowK_b (w := w) (Nat.le_refl _) _ D _ _ (by omega) hK' rfl rfl)⟩
    simp [results, Try.f21, go_sem, g0, g1, g2, g3, g4, g5, g6, g7, g8, g9, g10, g11, g12, g13, spc]
  case stop =>
    rintro D c pre W hD hpart ⟨⟨y, rfl, rfl, p0, p2⟩, hB⟩ hK
    have HN : Aside0 (nextE l hd k x = some y) := ⟨by
      obtain ⟨b, hb⟩ := part_prefix hpart
      unfold nextE
      rw [← hb]; rfl⟩
    obtain ⟨b0, b1, b2, b3, b4, b5, b6, b7, b8, b9, b10, b11, b12, b13⟩ := spc_cells p2
    obtain ⟨d0, d1, d2, d3, d4, d5, d6, d7, d8, d9, d10, d11, d12, d13⟩ := spc_cells p0
    have f0 := blk_frozen p0
    clear hpart
    obtain ⟨r1, -, -, r4, r5⟩ := putL_spec w.heap.size 41 (spc (spanV x k (some y)) y.2.2.1 y.2.2.2).toList 0 W (spc ⟨0, 0, z36, z39, 0, 0⟩ none 0) p0 rfl
    have HR1 : Aside0 (((((((((((((((W.setCell ⟨w.heap.size, 0, none⟩ (.int .i64 (spanV x k (some y)).f0)).setCell ⟨w.heap.size, 1, none⟩ (.int .i64 (spanV x k (some y)).f1)).setCell ⟨w.heap.size, 2, none⟩ (.int .i64 (spanV x k (some y)).f2.f0)).setCell ⟨w.heap.size, 3, none⟩ (.int .u64 (spanV x k (some y)).f2.f1)).setCell ⟨w.heap.size, 4, none⟩ (.int .i64 (spanV x k (some y)).f2.f2)).setCell ⟨w.heap.size, 5, none⟩ (.int .i64 (spanV x k (some y)).f2.f3)).setCell ⟨w.heap.size, 6, none⟩ (.int .i64 (spanV x k (some y)).f2.f4)).setCell ⟨w.heap.size, 7, none⟩ (.int .u64 (spanV x k (some y)).f2.f5.f0)).setCell ⟨w.heap.size, 8, none⟩ (.string (spanV x k (some y)).f2.f5.f1)).setCell ⟨w.heap.size, 9, none⟩ (.int .i64 (spanV x k (some y)).f3.f0)).setCell ⟨w.heap.size, 10, none⟩ (.int .i64 (spanV x k (some y)).f3.f1)).setCell ⟨w.heap.size, 11, none⟩ (.slice y.2.2.1 (spanV x k (some y)).f3.f2.length y.2.2.2)).setCell ⟨w.heap.size, 12, none⟩ (.int .i64 (spanV x k (some y)).f4)).setCell ⟨w.heap.size, 13, none⟩ (.int .i64 (spanV x k (some y)).f5)).heap[w.heap.size]? = some (.cells (spc (spanV x k (some y)) y.2.2.1 y.2.2.2) 41 (0, 0))) := ⟨r1.trans rfl⟩
    have HR4 : Aside0 (Below w.heap.size W ((((((((((((((W.setCell ⟨w.heap.size, 0, none⟩ (.int .i64 (spanV x k (some y)).f0)).setCell ⟨w.heap.size, 1, none⟩ (.int .i64 (spanV x k (some y)).f1)).setCell ⟨w.heap.size, 2, none⟩ (.int .i64 (spanV x k (some y)).f2.f0)).setCell ⟨w.heap.size, 3, none⟩ (.int .u64 (spanV x k (some y)).f2.f1)).setCell ⟨w.heap.size, 4, none⟩ (.int .i64 (spanV x k (some y)).f2.f2)).setCell ⟨w.heap.size, 5, none⟩ (.int .i64 (spanV x k (some y)).f2.f3)).setCell ⟨w.heap.size, 6, none⟩ (.int .i64 (spanV x k (some y)).f2.f4)).setCell ⟨w.heap.size, 7, none⟩ (.int .u64 (spanV x k (some y)).f2.f5.f0)).setCell ⟨w.heap.size, 8, none⟩ (.string (spanV x k (some y)).f2.f5.f1)).setCell ⟨w.heap.size, 9, none⟩ (.int .i64 (spanV x k (some y)).f3.f0)).setCell ⟨w.heap.size, 10, none⟩ (.int .i64 (spanV x k (some y)).f3.f1)).setCell ⟨w.heap.size, 11, none⟩ (.slice y.2.2.1 (spanV x k (some y)).f3.f2.length y.2.2.2)).setCell ⟨w.heap.size, 12, none⟩ (.int .i64 (spanV x k (some y)).f4)).setCell ⟨w.heap.size, 13, none⟩ (.int .i64 (spanV x k (some y)).f5))) := ⟨r4 _ (Nat.le_refl _)⟩
    have HK5 : Aside0 (((((((((((((((W.setCell ⟨w.heap.size, 0, none⟩ (.int .i64 (spanV x k (some y)).f0)).setCell ⟨w.heap.size, 1, none⟩ (.int .i64 (spanV x k (some y)).f1)).setCell ⟨w.heap.size, 2, none⟩ (.int .i64 (spanV x k (some y)).f2.f0)).setCell ⟨w.heap.size, 3, none⟩ (.int .u64 (spanV x k (some y)).f2.f1)).setCell ⟨w.heap.size, 4, none⟩ (.int .i64 (spanV x k (some y)).f2.f2)).setCell ⟨w.heap.size, 5, none⟩ (.int .i64 (spanV x k (some y)).f2.f3)).setCell ⟨w.heap.size, 6, none⟩ (.int .i64 (spanV x k (some y)).f2.f4)).setCell ⟨w.heap.size, 7, none⟩ (.int .u64 (spanV x k (some y)).f2.f5.f0)).setCell ⟨w.heap.size, 8, none⟩ (.string (spanV x k (some y)).f2.f5.f1)).setCell ⟨w.heap.size, 9, none⟩ (.int .i64 (spanV x k (some y)).f3.f0)).setCell ⟨w.heap.size, 10, none⟩ (.int .i64 (spanV x k (some y)).f3.f1)).setCell ⟨w.heap.size, 11, none⟩ (.slice y.2.2.1 (spanV x k (some y)).f3.f2.length y.2.2.2)).setCell ⟨w.heap.size, 12, none⟩ (.int .i64 (spanV x k (some y)).f4)).setCell ⟨w.heap.size, 13, none⟩ (.int .i64 (spanV x k (some y)).f5)).heap[D]? = some (.deferred (some []))) := ⟨r5.same D _ hK rfl⟩
    have HB := Aside0.mk hB
    clear p0 p2 r1 r4 r5 hB
    gi_wp2
    have hK' := HK5.out
    refine ⟨by simp, .inl ⟨_, _, rfl, run_takeDeferred hK', ?_⟩⟩
    have hh : (World.putObj ((((((((((((((W.setCell ⟨w.heap.size, 0, none⟩ (.int .i64 (spanV x k (some y)).f0)).setCell ⟨w.heap.size, 1, none⟩ (.int .i64 (spanV x k (some y)).f1)).setCell ⟨w.heap.size, 2, none⟩ (.int .i64 (spanV x k (some y)).f2.f0)).setCell ⟨w.heap.size, 3, none⟩ (.int .u64 (spanV x k (some y)).f2.f1)).setCell ⟨w.heap.size, 4, none⟩ (.int .i64 (spanV x k (some y)).f2.f2)).setCell ⟨w.heap.size, 5, none⟩ (.int .i64 (spanV x k (some y)).f2.f3)).setCell ⟨w.heap.size, 6, none⟩ (.int .i64 (spanV x k (some y)).f2.f4)).setCell ⟨w.heap.size, 7, none⟩ (.int .u64 (spanV x k (some y)).f2.f5.f0)).setCell ⟨w.heap.size, 8, none⟩ (.string (spanV x k (some y)).f2.f5.f1)).setCell ⟨w.heap.size, 9, none⟩ (.int .i64 (spanV x k (some y)).f3.f0)).setCell ⟨w.heap.size, 10, none⟩ (.int .i64 (spanV x k (some y)).f3.f1)).setCell ⟨w.heap.size, 11, none⟩ (.slice y.2.2.1 (spanV x k (some y)).f3.f2.length y.2.2.2)).setCell ⟨w.heap.size, 12, none⟩ (.int .i64 (spanV x k (some y)).f4)).setCell ⟨w.heap.size, 13, none⟩ (.int .i64 (spanV x k (some y)).f5)) D (.deferred none)).heap[w.heap.size]? = _ := (World.putObj_heap_other (by have := hs; omega)).trans HR1.out
    obtain ⟨g0, g1, g2, g3, g4, g5, g6, g7, g8, g9, g10, g11, g12, g13⟩ := spc_cells hh
    refine ⟨.agg (spc (spanV x k (some y)) y.2.2.1 y.2.2.2), ?_, by rw [HN.out]; rfl, (HB.out.trans HR4.out).trans (belowK_b (w := w) (Nat.le_refl _) _ D _ _ (by omega) hK' rfl rfl)⟩
    simp [results, Try.f21, go_sem, g0, g1, g2, g3, g4, g5, g6, g7, g8, g9, g10, g11, g12, g13, spc]
end Go.Proofs.Ytobfcppjmocgnaa.Own

/-
  history.own, whether a client's events may be, walked by hand.
-/
import Derived.Test.YtobfcppjmocgnaaOf
import Derived.Test.YtobfcppjmocgnaaPx1
namespace Go.Proofs.Ytobfcppjmocgnaa.Own
open Go.RowKit Go.Shelf Go.Proofs.YtobfcppjmocgnaaW.PrintWords Go.Proofs.YtobfcppjmocgnaaW.PrintLast Go.Proofs.Ytobfcppjmocgnaa.P
attribute [local go_sem] Oper.semAt_some
set_option linter.unusedVariables false

/-- Two calls are the same. -/
def eq36 (a b : S36) : Bool := a.f0 == b.f0 && (a.f1 == b.f1 && (a.f2 == b.f2 && (a.f3 == b.f3 && (a.f4 == b.f4 && ((a.f5.f0 == b.f5.f0 && (a.f5.f1.toList == b.f5.f1.toList)))))))
theorem eqC36 (d : Nat) (w : World) (a b : S36) :
    (Op.equalIn (d + 3) 36 (.agg #[.int .i64 a.f0, .int .u64 a.f1, .int .i64 a.f2, .int .i64 a.f3, .int .i64 a.f4, .int .u64 a.f5.f0, .string a.f5.f1]) (.agg #[.int .i64 b.f0, .int .u64 b.f1, .int .i64 b.f2, .int .i64 b.f3, .int .i64 b.f4, .int .u64 b.f5.f0, .string b.f5.f1])).run Try.prog w = .ok (eq36 a b) w := eqA36 ..
attribute [local go_sem high] eqC36
/-- An event that may not be, behind so many of its client, of which y is the last. -/
def bad (m : Nat) (y x : S53) : Bool := x.f1 != (m % 2 : Nat) || (x.f2 != (m / 2 : Nat) || (x.f1 == 1 && !eq36 x.f3 y.f3))
def okRow : Nat → S53 → List S53 → Bool
  | _, _, [] => true
  | m, y, x :: l => !bad m y x && okRow (m + 1) x l
def lastOf (y : S53) (l : List S53) : S53 := l.getLastD y
theorem okRow_snoc (l : List S53) : ∀ (m : Nat) (y x : S53), okRow m y (l ++ [x]) = (okRow m y l && !bad (m + l.length) (lastOf y l) x) := by
  induction l with
  | nil => intro m y x; simp [okRow, lastOf]
  | cons a l ih =>
    intro m y x
    simp only [List.cons_append, okRow, ih, List.length_cons]
    rw [Bool.and_assoc, show m + 1 + l.length = m + (l.length + 1) by omega]
    congr 3
    cases l <;> rfl

theorem own_kept {β : Type} (g : Nat) (t : TypeId) (cs : β → Array Value) : Own (fun s W => W.heap[g]? = some (.cells (cs s) t (0, 0))) := fun s X Y row hs hg hrow =>
  blk_grown hs hg (fun e => by obtain ⟨o, ho, hc⟩ := hrow g e.symm; rw [hs] at ho; cases ho; cases hc)

theorem evc_cells {W : World} {g : Nat} {x : S53} {A : Option Addr} {c : Nat} (h : W.heap[g]? = some (.cells (evc x A c) 53 (0, 0))) : W.cell? ⟨g, 0, none⟩ = some (.int .i64 x.f0) ∧ W.cell? ⟨g, 1, none⟩ = some (.int .i64 x.f1) ∧ W.cell? ⟨g, 2, none⟩ = some (.int .i64 x.f2) ∧
    W.cell? ⟨g, 3, none⟩ = some (.int .i64 x.f3.f0) ∧ W.cell? ⟨g, 4, none⟩ = some (.int .u64 x.f3.f1) ∧ W.cell? ⟨g, 5, none⟩ = some (.int .i64 x.f3.f2) ∧ W.cell? ⟨g, 6, none⟩ = some (.int .i64 x.f3.f3) ∧ W.cell? ⟨g, 7, none⟩ = some (.int .i64 x.f3.f4) ∧
    W.cell? ⟨g, 8, none⟩ = some (.int .u64 x.f3.f5.f0) ∧ W.cell? ⟨g, 9, none⟩ = some (.string x.f3.f5.f1) ∧ W.cell? ⟨g, 10, none⟩ = some (.int .i64 x.f4.f0) ∧ W.cell? ⟨g, 11, none⟩ = some (.int .i64 x.f4.f1) ∧ W.cell? ⟨g, 12, none⟩ = some (.slice A x.f4.f2.length c) :=
  ⟨blk_cell h 0, blk_cell h 1, blk_cell h 2, blk_cell h 3, blk_cell h 4, blk_cell h 5, blk_cell h 6, blk_cell h 7, blk_cell h 8, blk_cell h 9, blk_cell h 10, blk_cell h 11, blk_cell h 12⟩
/-- A row of stores into one block. -/
def putL (W : World) (g : Nat) : Nat → List Value → World
  | _, [] => W
  | i, v :: vs => putL (W.setCell ⟨g, i, none⟩ v) g (i + 1) vs
theorem putL_spec (g : Nat) (t : TypeId) (vs : List Value) : ∀ (i : Nat) (W : World) (cs : Array Value), W.heap[g]? = some (.cells cs t (0, 0)) → i + vs.length = cs.size →
    (putL W g i vs).heap[g]? = some (.cells (cs.toList.take i ++ vs).toArray t (0, 0)) ∧ (∀ k, k ≠ g → (putL W g i vs).heap[k]? = W.heap[k]?) ∧ (putL W g i vs).heap.size = W.heap.size ∧ (∀ n₀, n₀ ≤ g → Below n₀ W (putL W g i vs)) ∧ KeepsOthers W (putL W g i vs) := by
  induction vs with
  | nil =>
    intro i W cs h hi
    refine ⟨?_, fun _ _ => rfl, rfl, fun _ _ => Below.refl _ _, KeepsOthers.refl _⟩
    simp only [putL, List.append_nil]
    rw [h, List.take_of_length_le (by simp at hi; simp; omega)]
  | cons v vs ih =>
    intro i W cs h hi
    obtain ⟨h1, h2, h3, h4, h5⟩ := ih (i + 1) (W.setCell ⟨g, i, none⟩ v) (cs.setIfInBounds i v) (blk_set h i v) (by simp at hi; simp; omega)
    refine ⟨?_, fun k hk => (h2 k hk).trans (Below.heap_setCell _ _ _ k hk), by rw [putL, h3]; simp, fun n₀ hn => ?_, (KeepsOthers.setCell _ _ _).trans h5⟩
    · rw [putL, h1]
      congr 3
      have : i < cs.toList.length := by simp at hi; simp; omega
      simp only [Array.toList_setIfInBounds]
      rw [List.take_succ_eq_append_getElem (by simpa using this), List.take_set_of_le (Nat.le_refl _)]
      simp
    · exact ((Below.refl _ W).setCell (p := ⟨g, i, none⟩) hn v).trans (h4 n₀ hn)
theorem Kp2.trans {n₀ : Nat} {p q : Addr} {A B C : World} (h : Kp2 n₀ p q A B) (k : Kp2 n₀ p q B C) : Kp2 n₀ p q A C := ⟨h.1.trans k.1, k.2.1.trans h.2.1, k.2.2.trans h.2.2⟩
theorem Kp2.put {n₀ : Nat} {p q : Addr} {w : World} (hn : n₀ ≤ w.heap.size) (hp : p.block < w.heap.size) (hq : q.block < w.heap.size) (W : World) (l : Nat) (o o' : Obj) (hl : w.heap.size ≤ l) (h : W.heap[l]? = some o) (hc : o.isCells = false) (hw : o.isWalk = false) :
    Kp2 n₀ p q W (W.putObj l o') :=
  ⟨belowK_b hn W l o o' hl h hc hw, World.cell?_of_block (World.putObj_heap_other (by omega)), World.cell?_of_block (World.putObj_heap_other (by omega))⟩
def lastE (pre : List E) : E := pre.getLastD (0, z53, none, 0)
def evsOf (pre : List E) : List S53 := pre.map (fun x => x.2.1)
theorem lastE_snoc (pre : List E) (x : E) : lastE (pre ++ [x]) = x := by simp [lastE]
theorem last_evs (pre : List E) : lastOf z53 (evsOf pre) = (lastE pre).2.1 := by
  rcases List.eq_nil_or_concat pre with rfl | ⟨p, x, rfl⟩
  · rfl
  · rw [List.concat_eq_append, lastE_snoc]; simp [lastOf, evsOf]
theorem okRow_evs (pre : List E) (x : E) : okRow 0 z53 (evsOf (pre ++ [x])) = (okRow 0 z53 (evsOf pre) && !bad pre.length (lastE pre).2.1 x.2.1) := by
  unfold evsOf
  rw [List.map_append, List.map_cons, List.map_nil, okRow_snoc, ← last_evs]
  simp [evsOf]
theorem evs_filter (l : List S53) (hd : Nat → Option Addr × Nat) (cl : Int) : evsOf ((evl l hd).filter (sel cl 0)) = l.filter (fun x => x.f0 == cl) := by
  have h : (evl l hd).map (fun x => x.2.1) = l := by
    apply List.ext_getElem
    · simp [evl]
    · intro i h1 h2
      simp [evl, List.getD_eq_getElem?_getD, List.getElem?_eq_getElem h2]
  have e : sel cl 0 = (fun x : S53 => x.f0 == cl) ∘ (fun x : E => x.2.1) := by
    funext x; simp [sel]
  unfold evsOf
  rw [e, ← List.filter_map, h]
theorem okRow_prefix (a b : List S53) : ∀ (m : Nat) (y : S53), okRow m y (a ++ b) = true → okRow m y a = true := by
  induction a with
  | nil => intro m y _; rfl
  | cons x a ih =>
    intro m y h
    simp only [List.cons_append, okRow, Bool.and_eq_true] at h ⊢
    exact ⟨h.1, ih _ _ h.2⟩
theorem part_prefix {l : List S53} {hd : Nat → Option Addr × Nat} {cl fr : Int} {pre : List E} (h : Part l hd cl fr pre) : pre <+: (evl l hd).filter (sel cl fr) := by
  obtain ⟨k, y, hk, hy, hs, rfl⟩ := h
  have : (evl l hd).filter (sel cl fr) = ((evl l hd).take (k + 1)).filter (sel cl fr) ++ ((evl l hd).drop (k + 1)).filter (sel cl fr) := by
    rw [← List.filter_append, List.take_append_drop]
  rw [this, take_snoc hy, List.filter_append]
  simp only [List.filter_cons, hs, List.filter_nil, if_true]
  exact List.prefix_append _ _
theorem part_false {l : List S53} {hd : Nat → Option Addr × Nat} {cl : Int} {pre : List E} (h : Part l hd cl 0 pre) (hno : okRow 0 z53 (evsOf pre) = false) : okRow 0 z53 (l.filter (fun x => x.f0 == cl)) = false := by
  obtain ⟨b, hb⟩ := part_prefix h
  cases hq : okRow 0 z53 (l.filter (fun x => x.f0 == cl)) with
  | false => rfl
  | true =>
    rw [← evs_filter l hd, ← hb] at hq
    unfold evsOf at hq
    rw [List.map_append] at hq
    rw [← hno]
    exact (okRow_prefix _ _ _ _ hq).symm
/-- What holds ahead of a round. -/
def OwnI (w : World) (pre : List E) (W : World) : Prop :=
  (W.heap[w.heap.size]? = some (.cells #[.bool false] 4 (0, 0)) ∧ W.heap[w.heap.size + 1]? = some (.cells #[.int .i64 pre.length] 3 (0, 0)) ∧ W.heap[w.heap.size + 1 + 1]? = some (.cells (evc (lastE pre).2.1 (lastE pre).2.2.1 (lastE pre).2.2.2) 53 (0, 0))) ∧
    Below w.heap.size w W ∧ w.heap.size + 6 ≤ W.heap.size ∧ okRow 0 z53 (evsOf pre) = true
/-- What holds where a round has returned. -/
def OwnX (w : World) (c : Code) (pre : List E) (W : World) : Prop := (c = .ret ∧ okRow 0 z53 (evsOf pre) = false ∧ W.heap[w.heap.size]? = some (.cells #[.bool false] 4 (0, 0))) ∧ Below w.heap.size w W
/-- A round's event lies in a box of its own. -/
def OwnA (w : World) (m c : Nat) (A : Option Addr) (cl : Int) (x : E) (a : Act) (W : World) : Prop := ∃ g, w.heap.size + 6 ≤ g ∧ W.heap[g]? = some (.cells (evc x.2.1 x.2.2.1 x.2.2.2) 53 (0, 0)) ∧
  a = { tmps := #[.slice A m c, .int .i64 cl, undef, undef, .pointer (some ⟨w.heap.size, 0, none⟩), .pointer (some ⟨w.heap.size + 1, 0, none⟩), .pointer (some ⟨w.heap.size + 1 + 1, 0, none⟩), undef, .pointer (some ⟨g, 0, none⟩), .slice A m c, .int .i64 cl,
    .func (.func 33) #[] #[.pointer (some ⟨w.heap.size + 1 + 1 + 1, 0, none⟩), .pointer (some ⟨w.heap.size + 1 + 1 + 1 + 1 + 1, 0, none⟩), .pointer (some ⟨w.heap.size + 1 + 1 + 1 + 1, 0, none⟩)], .int .i64 x.1, .agg (evc x.2.1 x.2.2.1 x.2.2.2), undef, undef, undef, undef, undef, undef, undef, undef, undef, undef, undef, undef, undef, undef, undef, undef, undef, undef, undef, undef, undef, undef, undef, undef, undef, undef, undef], defers := [] }
theorem OwnI_own (w : World) (B : Nat) (hB : w.heap.size ≤ B) : OwnFrom B (OwnI w) :=
  OwnFrom.and (Own.from (fun s X Y row h hg hr => ⟨own_kept _ _ (fun _ : List E => #[.bool false]) s X Y row h.1 hg hr, own_kept _ _ (fun s : List E => #[.int .i64 s.length]) s X Y row h.2.1 hg hr, own_kept _ _ (fun s : List E => evc (lastE s).2.1 (lastE s).2.2.1 (lastE s).2.2.2) s X Y row h.2.2 hg hr⟩) _)
    (OwnFrom.and (ownFrom_below (Nat.le_refl _) hB) (Own.from (fun _ _ _ _ h hg _ => ⟨Nat.le_trans h.1 hg.size, h.2⟩) _))
theorem OwnX_own (w : World) (B : Nat) (hB : w.heap.size ≤ B) (c : Code) : OwnFrom B (OwnX w c) :=
  OwnFrom.and (Own.from (fun s X Y row h hg hr => ⟨h.1, h.2.1, own_kept _ _ (fun _ : List E => #[.bool false]) s X Y row h.2.2 hg hr⟩) _) (ownFrom_below (Nat.le_refl _) hB)
theorem OwnA_own (w : World) (m c : Nat) (A : Option Addr) (cl : Int) (B : Nat) (x : E) (a : Act) : OwnFrom B (fun (_ : Unit) W => OwnA w m c A cl x a W) :=
  Own.from (fun s X Y row h hg hr => by
    obtain ⟨g, h1, h2, h3⟩ := h
    exact ⟨g, h1, own_kept _ _ (fun _ : Unit => evc x.2.1 x.2.2.1 x.2.2.2) s X Y row h2 hg hr, h3⟩) _

set_option maxRecDepth 100000 in
set_option maxHeartbeats 8000000 in
theorem own_in (n : Nat) (hn : 3 ≤ n) (A : Option Addr) (c : Nat) (l : List S53) (cl : Int) (hl : l.length ≤ 50) (w : World) (hC : Kd.C k53 w A l.length l) :
    CallsIn W0 n Try.prog 24 #[.slice A l.length c, .int .i64 cl] w fun e W' => e = .returned (.bool (okRow 0 z53 (l.filter (fun x => x.f0 == cl)))) ∧ Below w.heap.size w W' := by
  have h1 : 1 ≤ n := by omega
  obtain ⟨hd, hE⟩ := evs_of hC
  clear hC
  have HE := Aside0.mk hE
  clear hE
  refine callsIn_of_wp_marks Try.func24 rfl trivial ?_ rfl
  simp only [Try.ntmps24, List.size_toArray, List.length_cons, List.length_nil, Nat.reduceAdd, Nat.reduceSub, Array.replicate_succ, Array.replicate_zero, List.push_toArray, List.append_toArray, List.nil_append, List.cons_append]
  gi_wp2_with (refine ⟨trivial, ?_⟩; gi_at_call 29; refine (of_in W0 (n - 1) trivial rfl A l.length c cl 0 _).mono ?_; rintro e w' ⟨rfl, rfl⟩)
  have e0 : evc z53 none 0 = #[.int .i64 0, .int .i64 0, .int .i64 0, .int .i64 0, .int .u64 0, .int .i64 0, .int .i64 0, .int .i64 0, .int .u64 0, .string ⟨#[]⟩, .int .i64 0, .int .i64 0, .slice none 0 0] := rfl
  rw [← e0]
  clear e0
  obtain ⟨W1, hW1⟩ : ∃ W1, ((((((w.alloc (.cells #[.bool false] 4)).alloc (.cells #[.int .i64 0] 3)).alloc (.cells (evc z53 none 0) 53)).alloc (.cells #[.slice A l.length c] 22)).alloc (.cells #[.int .i64 cl] 3)).alloc (.cells #[.int .i64 0] 3)) = W1 := ⟨_, rfl⟩
  have hs : W1.heap.size = w.heap.size + 6 := by rw [← hW1]; simp
  have hBW : Below w.heap.size w W1 := by
    rw [← hW1]; exact ((((((Below.refl _ w).alloc (Nat.le_refl _) _).alloc (by simp) _).alloc (by simp; omega) _).alloc (by simp; omega) _).alloc (by simp; omega) _).alloc (by simp; omega) _
  have q0 : W1.heap[w.heap.size]? = some (.cells #[.bool false] 4 (0, 0)) := by
    rw [← hW1]; exact blk_alloc (blk_alloc (blk_alloc (blk_alloc (blk_alloc (blk_new w _) _) _) _) _) _
  have q1 : W1.heap[w.heap.size + 1]? = some (.cells #[.int .i64 0] 3 (0, 0)) := by
    rw [← hW1]; have := blk_new (w.alloc (.cells #[.bool false] 4)) (.cells #[.int .i64 0] 3)
    rw [World.size_alloc] at this; exact blk_alloc (blk_alloc (blk_alloc (blk_alloc this _) _) _) _
  have q2 : W1.heap[w.heap.size + 1 + 1]? = some (.cells (evc z53 none 0) 53 (0, 0)) := by
    rw [← hW1]; have := blk_new ((w.alloc (.cells #[.bool false] 4)).alloc (.cells #[.int .i64 0] 3)) (.cells (evc z53 none 0) 53)
    rw [World.size_alloc, World.size_alloc] at this; exact blk_alloc (blk_alloc (blk_alloc this _) _) _
  have q3 : W1.cell? ⟨w.heap.size + 1 + 1 + 1, 0, none⟩ = some (.slice A l.length c) := by
    rw [← hW1]; have := blk_new (((w.alloc (.cells #[.bool false] 4)).alloc (.cells #[.int .i64 0] 3)).alloc (.cells (evc z53 none 0) 53)) (.cells #[.slice A l.length c] 22)
    rw [World.size_alloc, World.size_alloc, World.size_alloc] at this; exact (blk_cell (blk_alloc (blk_alloc this _) _) 0).trans rfl
  have q4 : W1.cell? ⟨w.heap.size + 1 + 1 + 1 + 1, 0, none⟩ = some (.int .i64 cl) := by
    rw [← hW1]; have := blk_new ((((w.alloc (.cells #[.bool false] 4)).alloc (.cells #[.int .i64 0] 3)).alloc (.cells (evc z53 none 0) 53)).alloc (.cells #[.slice A l.length c] 22)) (.cells #[.int .i64 cl] 3)
    rw [World.size_alloc, World.size_alloc, World.size_alloc, World.size_alloc] at this; exact (blk_cell (blk_alloc this _) 0).trans rfl
  have q5 : W1.cell? ⟨w.heap.size + 1 + 1 + 1 + 1 + 1, 0, none⟩ = some (.int .i64 0) := by
    rw [← hW1]; have := blk_new (((((w.alloc (.cells #[.bool false] 4)).alloc (.cells #[.int .i64 0] 3)).alloc (.cells (evc z53 none 0) 53)).alloc (.cells #[.slice A l.length c] 22)).alloc (.cells #[.int .i64 cl] 3)) (.cells #[.int .i64 0] 3)
    rw [World.size_alloc, World.size_alloc, World.size_alloc, World.size_alloc, World.size_alloc] at this; exact (blk_cell this 0).trans rfl
  rw [hW1]
  clear hW1
  refine wpIn_rangeFunc_ownH rfl h1 (gf := 33) (lb := #[.pointer (some ⟨w.heap.size + 1 + 1 + 1, 0, none⟩), .pointer (some ⟨w.heap.size + 1 + 1 + 1 + 1 + 1, 0, none⟩), .pointer (some ⟨w.heap.size + 1 + 1 + 1 + 1, 0, none⟩)]) rfl trivial (enters_of Try.func33 (by kernel_rfl) rfl)
    (of_stops (n - 1) (by omega) _ _ _ A c l hd cl 0 hl w HE.out W1 hBW q3 q5 q4) Kp2.trans (Kp2.put (by omega) (by simp; omega) (by simp; omega)) (Below.refl _ _) (fun _ => rfl)
    (OwnI w) (OwnX w) (OwnI_own w _ (by omega)) (OwnX_own w _ (by omega)) ⟨⟨q0, q1, q2⟩, hBW, Nat.le_of_eq hs.symm, rfl⟩ (OwnA w l.length c A cl) (OwnA_own w l.length c A cl _) ?assign ?body ?done ?stop
  case assign =>
    rintro ln pre x W K hI hK
    simp only [E.enc, evc]
    gi_wp2
    have hsz : w.heap.size + 6 ≤ W.heap.size := hI.2.2.1
    have hb := (Below.refl W.heap.size W).alloc (Nat.le_refl _) (.cells (evc x.2.1 x.2.2.1 x.2.2.2) 53)
    refine hK _ (W.alloc (.cells (evc x.2.1 x.2.2.1 x.2.2.2) 53)) ((KeepsOthers.alloc _ _).from _) ⟨(Below.refl _ W).alloc (by omega) _, hb.cell (by simp; omega), hb.cell (by simp; omega)⟩ (OwnFrom.alloc (OwnI_own w W.heap.size (by omega)) _ hI) ⟨W.heap.size, hsz, blk_new W _, rfl⟩
  case body =>
    rintro ln pre x a' W - - ⟨⟨p0, p1, p2⟩, hB, hsz, hok⟩ ⟨g, hg, hgx, rfl⟩ hlt
    obtain ⟨y, hy⟩ : ∃ y, lastE pre = y := ⟨_, rfl⟩
    rw [hy] at p2
    obtain ⟨i, x, Ax, cx⟩ := x
    obtain ⟨j, y, Ay, cy⟩ := y
    simp only at hgx p2 ⊢
    have HB := Aside0.mk hB
    have HO := Aside0.mk hok
    have HSZ := Aside0.mk hsz
    have HY := Aside0.mk hy
    obtain ⟨a0, a1, a2, a3, a4, a5, a6, a7, a8, a9, a10, a11, a12⟩ := evc_cells hgx
    obtain ⟨b0, b1, b2, b3, b4, b5, b6, b7, b8, b9, b10, b11, b12⟩ := evc_cells p2
    have c0 : W.cell? ⟨w.heap.size + 1, 0, none⟩ = some (.int .i64 pre.length) := blk_cell p1 0
    have d0 : W.cell? ⟨w.heap.size, 0, none⟩ = some (.bool false) := blk_cell p0 0
    have f0 := blk_frozen p0
    have f1 := blk_frozen p1
    have f2 := blk_frozen p2
    have m1 : Int.tmod (pre.length : Int) 2 = ((pre.length % 2 : Nat) : Int) := by rw [Int.tmod_eq_emod_of_nonneg (by omega)]; omega
    have m2 : Int.tdiv (pre.length : Int) 2 = ((pre.length / 2 : Nat) : Int) := by rw [Int.tdiv_eq_ediv_of_nonneg (by omega)]; omega
    have Hp0 := Aside0.mk p0
    have Hp1 := Aside0.mk p1
    have Hp2 := Aside0.mk p2
    have Hgx := Aside0.mk hgx
    clear hB hok hsz hy p0 p1 p2 hgx
    simp only [evc]
    have FIN : ∀ (v1 v2 : Int), v1 = x.f1 → v2 = x.f2 → bad pre.length y x = false → ∀ W2 : World, W2 = (((((((((((((W.setCell ⟨w.heap.size + 1 + 1, 0, none⟩ (.int .i64 x.f0)).setCell ⟨w.heap.size + 1 + 1, 1, none⟩ (.int .i64 v1)).setCell ⟨w.heap.size + 1 + 1, 2, none⟩ (.int .i64 v2)).setCell ⟨w.heap.size + 1 + 1, 3, none⟩ (.int .i64 x.f3.f0)).setCell ⟨w.heap.size + 1 + 1, 4, none⟩ (.int .u64 x.f3.f1)).setCell ⟨w.heap.size + 1 + 1, 5, none⟩ (.int .i64 x.f3.f2)).setCell ⟨w.heap.size + 1 + 1, 6, none⟩ (.int .i64 x.f3.f3)).setCell ⟨w.heap.size + 1 + 1, 7, none⟩ (.int .i64 x.f3.f4)).setCell ⟨w.heap.size + 1 + 1, 8, none⟩ (.int .u64 x.f3.f5.f0)).setCell ⟨w.heap.size + 1 + 1, 9, none⟩ (.string x.f3.f5.f1)).setCell ⟨w.heap.size + 1 + 1, 10, none⟩ (.int .i64 x.f4.f0)).setCell ⟨w.heap.size + 1 + 1, 11, none⟩ (.int .i64 x.f4.f1)).setCell ⟨w.heap.size + 1 + 1, 12, none⟩ (.slice Ax x.f4.f2.length cx)).setCell ⟨w.heap.size + 1, 0, none⟩ (.int .i64 ((pre.length : Int) + 1)) → ∀ a, ownPostG W1.heap.size
        (Kp2 w.heap.size ⟨w.heap.size + 1 + 1 + 1 + 1 + 1, 0, none⟩ ⟨w.heap.size + 1 + 1 + 1 + 1, 0, none⟩) (OwnI w) (OwnX w) (pre ++ [(i, x, Ax, cx)]) W Exit.normal a W2 := by
      rintro _ _ rfl rfl hbad W2 rfl a
      obtain ⟨r1, r2, r3, r4, r5⟩ := putL_spec (w.heap.size + 1 + 1) 53 [.int .i64 x.f0, .int .i64 x.f1, .int .i64 x.f2, .int .i64 x.f3.f0, .int .u64 x.f3.f1, .int .i64 x.f3.f2, .int .i64 x.f3.f3, .int .i64 x.f3.f4, .int .u64 x.f3.f5.f0, .string x.f3.f5.f1, .int .i64 x.f4.f0, .int .i64 x.f4.f1, .slice Ax x.f4.f2.length cx] 0 W (evc y Ay cy) Hp2.out rfl
      have hne : ∀ k, k ≠ w.heap.size + 1 + 1 → k ≠ w.heap.size + 1 → ∀ v, ((putL W (w.heap.size + 1 + 1) 0 [.int .i64 x.f0, .int .i64 x.f1, .int .i64 x.f2, .int .i64 x.f3.f0, .int .u64 x.f3.f1, .int .i64 x.f3.f2, .int .i64 x.f3.f3, .int .i64 x.f3.f4, .int .u64 x.f3.f5.f0, .string x.f3.f5.f1, .int .i64 x.f4.f0, .int .i64 x.f4.f1, .slice Ax x.f4.f2.length cx]).setCell ⟨w.heap.size + 1, 0, none⟩ v).heap[k]? = W.heap[k]? := fun k h1 h2 v => (Below.heap_setCell _ _ _ k h2).trans (r2 k h1)
      refine ⟨(r5.trans (KeepsOthers.setCell _ _ _)).from _, ⟨(r4 w.heap.size (by omega)).setCell (p := ⟨w.heap.size + 1, 0, none⟩) (by simp) _, World.cell?_of_block (hne (w.heap.size + 1 + 1 + 1 + 1 + 1) (by omega) (by omega) _), World.cell?_of_block (hne (w.heap.size + 1 + 1 + 1 + 1) (by omega) (by omega) _)⟩, ⟨(hne _ (by omega) (by omega) _).trans Hp0.out, ?_, ?_⟩, HB.out.trans ((r4 w.heap.size (by omega)).setCell (p := ⟨w.heap.size + 1, 0, none⟩) (by simp) _), ?_, ?_⟩
      · have := blk_set ((r2 (w.heap.size + 1) (by omega)).trans Hp1.out) 0 (.int .i64 ((pre.length : Int) + 1))
        rw [List.length_append]
        exact this
      · rw [lastE_snoc]
        exact (Below.heap_setCell _ _ _ _ (by simp)).trans r1
      · have hq : ∀ v, ((putL W (w.heap.size + 1 + 1) 0 [.int .i64 x.f0, .int .i64 x.f1, .int .i64 x.f2, .int .i64 x.f3.f0, .int .u64 x.f3.f1, .int .i64 x.f3.f2, .int .i64 x.f3.f3, .int .i64 x.f3.f4, .int .u64 x.f3.f5.f0, .string x.f3.f5.f1, .int .i64 x.f4.f0, .int .i64 x.f4.f1, .slice Ax x.f4.f2.length cx]).setCell ⟨w.heap.size + 1, 0, none⟩ v).heap.size = W.heap.size := fun v => by rw [World.size_setCell, r3]
        exact Nat.le_trans HSZ.out (Nat.le_of_eq (hq _).symm)
      · rw [okRow_evs, HO.out, HY.out, hbad]; rfl
    have FINX : bad pre.length y x = true → ∀ a, ownPostG W1.heap.size
        (Kp2 w.heap.size ⟨w.heap.size + 1 + 1 + 1 + 1 + 1, 0, none⟩ ⟨w.heap.size + 1 + 1 + 1 + 1, 0, none⟩) (OwnI w) (OwnX w) (pre ++ [(i, x, Ax, cx)]) W Exit.ret a (W.setCell ⟨w.heap.size, 0, none⟩ (.bool false)) := fun hbad a =>
      ⟨(KeepsOthers.setCell _ _ _).from _, ⟨rfl, by rw [okRow_evs, HO.out, HY.out, hbad]; rfl, blk_set Hp0.out 0 (.bool false)⟩, HB.out.setCell (p := ⟨w.heap.size, 0, none⟩) (Nat.le_refl _) _⟩
    by_cases t1 : x.f1 = ((pre.length % 2 : Nat) : Int)
    · by_cases t2 : x.f2 = ((pre.length / 2 : Nat) : Int)
      · by_cases t3 : x.f1 = 1
        · cases t4 : eq36 x.f3 y.f3 with
          | true =>
            gi_wp2
            exact FIN _ _ t3.symm (by rw [t2]; simp) (by simp [bad, t1, t2, t4]) _ rfl _
          | false =>
            gi_wp2
            exact FINX (by simp [bad, t4, t3]) _
        · have t5 : ((pre.length : Int) % 2 == 1) = false := by simp; omega
          gi_wp2
          exact FIN _ _ (by rw [t1]; simp) (by rw [t2]; simp) (by simp [bad, t1, t2]; omega) _ rfl _
      · have t5 : (x.f2 == ((pre.length : Int) / 2)) = false := by simp; omega
        have t6 : (x.f2 != ((pre.length : Int) / 2)) = true := by simp; omega
        gi_wp2
        exact FINX (by unfold bad; rw [show (x.f2 != ((pre.length / 2 : Nat) : Int)) = true from by simpa using t2]; simp) _
    · have t5 : (x.f1 == ((pre.length : Int) % 2)) = false := by simp; omega
      have t6 : (x.f1 != ((pre.length : Int) % 2)) = true := by simp; omega
      gi_wp2
      exact FINX (by unfold bad; rw [show (x.f1 != ((pre.length % 2 : Nat) : Int)) = true from by simpa using t1]; simp) _
  case done =>
    rintro D ys W hD rfl ⟨⟨p0, -, -⟩, hB, hsz, hok⟩ hK
    have d0 : W.cell? ⟨w.heap.size, 0, none⟩ = some (.bool false) := blk_cell p0 0
    have f0 := blk_frozen p0
    have hok' := hok
    rw [evs_filter] at hok'
    have HOK := Aside0.mk hok'
    clear hok hok'
    gi_wp2
    have hK' := (KeepsOthers.setCell W ⟨w.heap.size, 0, none⟩ (.bool true)).same D _ hK rfl
    refine ⟨by simp, .inl ⟨_, _, rfl, run_takeDeferred hK', ?_⟩⟩
    have hc5 := cell_kept (World.cell?_setCell_same' W ⟨w.heap.size, 0, none⟩ (.bool true) (by rw [d0]; rfl)) (grownBy_putObj' _ D (.deferred none)) (fun r e => by cases e; exact ⟨_, hK', rfl⟩)
    refine ⟨.bool true, ?_, by rw [HOK.out], (hB.setCell (p := ⟨w.heap.size, 0, none⟩) (Nat.le_refl _) _).trans (belowK_b (w := w) (Nat.le_refl _) _ D _ _ (by omega) hK' rfl rfl)⟩
    simp [results, Try.f24, go_sem, hc5]
  case stop =>
    rintro D c pre W hD hpart ⟨⟨rfl, hno, p0⟩, hB⟩ hK
    have hfin : okRow 0 z53 (l.filter (fun x => x.f0 == cl)) = false := part_false hpart hno
    have d0 : W.cell? ⟨w.heap.size, 0, none⟩ = some (.bool false) := blk_cell p0 0
    have HOK := Aside0.mk hfin
    clear hfin hno hpart
    gi_wp2
    refine ⟨by simp, .inl ⟨_, _, rfl, run_takeDeferred hK, ?_⟩⟩
    have hc5 := cell_kept d0 (grownBy_putObj' _ D (.deferred none)) (fun r e => by cases e; exact ⟨_, hK, rfl⟩)
    refine ⟨.bool false, ?_, by rw [HOK.out], hB.trans (belowK_b (w := w) (Nat.le_refl _) W D _ _ (by omega) hK rfl rfl)⟩
    simp [results, Try.f24, go_sem, hc5]
end Go.Proofs.Ytobfcppjmocgnaa.Own

/-
  degree.weights as an iterator's contract; degree.Table by hand.
-/
import Derived.Test.YtjgcfdiicjbdoaaIter
import Derived.Test.YtjgcfdiicjbdoaaPx4
namespace Go.Proofs.Ytjgcfdiicjbdoaa.Pure
open Go.RowKit Go.Shelf Go.Proofs.YtjgcfdiicjbdoaaW.PrintWords Go.Proofs.YtjgcfdiicjbdoaaW.PrintLast Go.Proofs.Ytjgcfdiicjbdoaa.Own Go.Proofs.Ytjgcfdiicjbdoaa.P
attribute [local go_sem] Oper.semAt_some

/-- The weights, as u64 values. -/
def wl (k t : Nat) : List Int := (List.range k).map fun i => (wt k t (i + 1) : Int)

theorem iter_stops (n : Nat) (hn : 1 ≤ n) (Bn n₀ : Nat) (k t : Nat) (hk1 : 1 ≤ k) (hk2 : k ≤ 64) (ht : degree_root.f 17 k = some (t : Int)) (it : IsRoot k t) (w : World) (hBn : Bn < w.heap.size)
    (hc : w.cell? ⟨Bn, 0, none⟩ = some (.int .i64 k)) :
    SeqStopsK W0 n Try.prog 26 #[.pointer (some ⟨Bn, 0, none⟩)] (fun x : Int => #[Value.int .u64 x]) (Below n₀) (fun ys => ys = wl k t) (fun pre => pre <+: wl k t) (wl k t).length w := fun l J Jx W hW hJ _ hY h0 =>
  iter_in n hn l Bn n₀ k t hk1 hk2 ht it (wl k t) rfl J Jx hY W hJ ((hW.cell (p := ⟨Bn, 0, none⟩) hBn).trans hc) h0


theorem ownsRow_weaken {w : World} {b b' : Nat} {e : TypeId} {size : Nat} {v : Value} {k : Nat} {xs : List Value} (hb : b' ≤ b) (h : w.ownsRow b e size v k xs) : w.ownsRow b' e size v k xs :=
  ⟨h.1, h.2.imp id fun ⟨g, cap, cur, h1, h2, h3⟩ => ⟨g, cap, cur, h1, Nat.le_trans hb h2, h3⟩⟩

theorem row_low {w : World} {base : Nat} {e : TypeId} {size : Nat} {v : Value} {n : Nat} {xs : List Value} (h : w.ownsRow base e size v n xs) {b : Nat} (hb : b < base) : some b ≠ v.ownBlock := by
  rcases h.2 with ⟨rfl, _⟩ | ⟨g, cap, cur, rfl, h1, _⟩
  · simp [Value.ownBlock]
  · simp only [Value.ownBlock, ne_eq, Option.some.injEq]; omega

structure Hold (p : Prop) : Prop where mk :: (out : p)
theorem hold {p : Prop} (h : Hold p) : p := h.out
/-- The running sums, and the last of them. -/
def rs (l : List Int) : List Int × Int := l.foldl (fun p x => (p.1 ++ [IntKind.u64.wrap (p.2 + x)], IntKind.u64.wrap (p.2 + x))) ([], 0)
theorem rs_snoc (pre : List Int) (x : Int) : rs (pre ++ [x]) = ((rs pre).1 ++ [IntKind.u64.wrap ((rs pre).2 + x)], IntKind.u64.wrap ((rs pre).2 + x)) := by simp [rs]
theorem rs_len_aux (l : List Int) : ∀ p : List Int × Int, (l.foldl (fun p x => (p.1 ++ [IntKind.u64.wrap (p.2 + x)], IntKind.u64.wrap (p.2 + x))) p).1.length = p.1.length + l.length := by
  induction l with
  | nil => intro p; rfl
  | cons a l ih => intro p; rw [List.foldl_cons, ih]; simp; omega
theorem rs_len (l : List Int) : (rs l).1.length = l.length := by rw [rs, rs_len_aux]; simp
theorem info23 : (Try.prog.info? 23).map (fun i => (i.zero, i.size, i.bytes)) = some (some (.int .u64 0), 1, 8) := by kernel_rfl

set_option maxRecDepth 100000 in
set_option maxHeartbeats 4000000 in
theorem table_in (n : Nat) (hn : 3 ≤ n) (k t : Nat) (hk1 : 1 ≤ k) (hk2 : k ≤ 64) (ht : degree_root.f 17 k = some (t : Int)) (it : IsRoot k t) (w : World) :
    CallsIn W0 n Try.prog 13 #[.int .i64 k] w fun e W' => ∃ v, e = .returned (.tuple #[v, .int .i64 0]) ∧
      W'.ownsRow w.heap.size 23 1 v k ((rs (wl k t)).1.map (Value.int .u64)) ∧ Below w.heap.size w W' := by
  have h1 : 1 ≤ n := by omega
  obtain ⟨i0, hi, hz0, hz1, hz2⟩ := info_parts info23
  have hsz : degree_sized.f k = some true := by unfold degree_sized.f; rw [if_pos (by omega), decide_eq_true (by omega)]
  refine callsIn_of_wp_marks Try.func13 rfl trivial ?_ rfl
  simp only [Try.ntmps13, List.size_toArray, List.length_cons, List.length_nil, Nat.reduceAdd, Nat.reduceSub, Array.replicate_succ, Array.replicate_zero, List.push_toArray, List.append_toArray, List.nil_append, List.cons_append]
  gi_wp2_with (refine ⟨trivial, ?_⟩; first
    | (gi_at_call 21; refine (callsIn_wide.2 (degree_sized.calls k true _ hsz)).mono ?_; rintro e w' ⟨rfl, ⟨nd, rfl⟩⟩)
    | (gi_at_call 23; refine (weights_in W0 (n - 1) trivial rfl k _).mono ?_; rintro e w' ⟨rfl, rfl⟩))
  have bO : Boxed ((w.drewN nd).alloc (.cells #[.slice none 0 0] 22)) w.heap.size 22 (.slice none 0 0) := Boxed.new (w.drewN nd) 22 (.slice none 0 0)
  have bS := Boxed.new ((w.drewN nd).alloc (.cells #[.slice none 0 0] 22)) 23 (.int .u64 0)
  rw [World.size_alloc, show (w.drewN nd).heap.size = w.heap.size from rfl] at bS
  have bN := Boxed.new (((w.drewN nd).alloc (.cells #[.slice none 0 0] 22)).alloc (.cells #[.int .u64 0] 23)) 3 (.int .i64 k)
  rw [World.size_alloc, World.size_alloc, show (w.drewN nd).heap.size = w.heap.size from rfl] at bN
  have hBd : Below w.heap.size w (w.drewN nd) := (Drawn0.mk ⟨nd, rfl⟩ : Drawn0 w (w.drewN nd)).below
  have hB0 : Below w.heap.size w ((((w.drewN nd).alloc (.cells #[.slice none 0 0] 22)).alloc (.cells #[.int .u64 0] 23)).alloc (.cells #[.int .i64 k] 3)) := ((hBd.alloc (Nat.le_refl _) _).alloc (by simp) _).alloc (by simp; omega) _
  refine wpIn_rangeFunc_ownG rfl h1 (gf := 26) (lb := #[.pointer (some ⟨w.heap.size + 1 + 1, 0, none⟩)]) rfl trivial (enters_of Try.func26 (by kernel_rfl) rfl)
    (iter_stops (n - 1) (by omega) (w.heap.size + 1 + 1) w.heap.size k t hk1 hk2 ht it _ (by simp) bN.cell) belowK_t (belowK_b (by simp; omega)) (Below.refl _ _) (fun _ => rfl)
    (fun pre W => ((∃ v, Boxed W w.heap.size 22 v ∧ W.ownsRow (w.heap.size + 2) 23 1 v pre.length ((rs pre).1.map (Value.int .u64)) ∧ True) ∧ Boxed W (w.heap.size + 1) 23 (.int .u64 (rs pre).2)) ∧ Below w.heap.size w W)
    (fun _ _ _ => False)
    (OwnFrom.and (OwnFrom.and (Own.from (holdsRow_own (w.heap.size + 2) w.heap.size 22 23 1 (fun pre : List Int => pre.length) (fun pre => (rs pre).1.map (Value.int .u64)) (fun _ _ => True)) _) (Own.from (boxed_own (w.heap.size + 1) 23 (fun pre : List Int => .int .u64 (rs pre).2)) _)) (ownFrom_below (Nat.le_refl _) (by simp; omega)))
    (fun _ _ _ _ _ hs _ _ => hs)
    ⟨⟨⟨_, (bO.alloc _).alloc _, World.ownsRow_nil _ _ _ _, trivial⟩, bS.alloc _⟩, hB0⟩
    (fun x => { tmps := #[.int .i64 k, undef, .slice none 0 0, .int .i64 0, .pointer (some ⟨w.heap.size, 0, none⟩), .pointer (some ⟨w.heap.size + 1, 0, none⟩), .int .u64 x, .int .i64 k, .bool true, .bool false, .int .i64 k, .func (.func 26) #[] #[.pointer (some ⟨w.heap.size + 1 + 1, 0, none⟩)], .int .u64 x, undef, undef, undef, undef, undef, undef, undef, undef], defers := [] }) ?assign ?body ?done ?stop
  case assign =>
    intro l x W K hK
    gi_wp2
    exact hK
  case body =>
    rintro l pre x W ⟨⟨⟨v, hv, hrow, -⟩, hs⟩, hB⟩ hlt
    have hlen : (wl k t).length = k := by simp [wl]
    have hc := hv.cell
    have hcs := hs.cell
    have hfs := hs.frozen
    rw [hlen] at hlt
    obtain ⟨ns, hns⟩ : ∃ ns, IntKind.u64.wrap ((rs pre).2 + x) = ns := ⟨_, rfl⟩
    have hsn := rs_snoc pre x
    rw [hns] at hsn
    have hv' : Boxed (W.setCell ⟨w.heap.size + 1, 0, none⟩ (.int .u64 ns)) w.heap.size 22 v := hv.other (by omega) _
    have hs' : Boxed (W.setCell ⟨w.heap.size + 1, 0, none⟩ (.int .u64 ns)) (w.heap.size + 1) 23 (.int .u64 ns) := hs.set _
    have hrow' := hrow.kept (grownBy_setCell' W (w.heap.size + 1) (.int .u64 ns)) (.inr (row_low hrow (by omega)).symm)
    have hB' : Below w.heap.size W (W.setCell ⟨w.heap.size + 1, 0, none⟩ (.int .u64 ns)) := (Below.refl _ W).setCell (p := ⟨w.heap.size + 1, 0, none⟩) (by simp) _
    have hk' : KeepsOthers W (W.setCell ⟨w.heap.size + 1, 0, none⟩ (.int .u64 ns)) := KeepsOthers.setCell _ _ _
    have hws : (W.setCell ⟨w.heap.size + 1, 0, none⟩ (.int .u64 ns)).heap.size = W.heap.size := by simp
    have hnew := cell_one_new (W.setCell ⟨w.heap.size + 1, 0, none⟩ (.int .u64 ns)) (.int .u64 ns) 23
    rw [hws] at hnew
    have hc' := hv'.cell
    have hcs' := hs'.cell
    have hWs := hs.lt
    have hBs := hB.size
    gi_wp2_with (gi_at_builtin; refine hold ?_)
    refine ⟨?_⟩
    refine wpListIn_append_own _ rfl _ _ 22 rfl (w.heap.size + 2) 23 i0 (.int .u64 0) 1 8 Try.underlying22 hi hz0 hz1 hz2 rfl (by decide) _ _ _ rfl (hrow'.alloc _) ⟨W.heap.size, 0, none⟩ 1 1 [.int .u64 ns] rfl rfl hnew (by simp [Value.oneCell']) (Nat.le_trans (show _ ≤ 64 by omega) (by decide)) (by omega) (by simp; omega) ?_
    intro v' w1 hown' hgrow _
    obtain ⟨g', cap', rfl⟩ := ownsRow_succ hown'
    obtain ⟨hv1, hv2, hr2, hk2, hb2⟩ := hv'.appended (by decide) (ownsRow_weaken (b' := w.heap.size) (by omega) hrow') (by omega) (Nat.le_refl _) (ownsRow_weaken (b' := w.heap.size) (by omega) hown') hgrow
    have hs1 := (hs'.alloc _).kept hgrow (row_low hrow' (by omega))
    have hr3 := hown'.kept (grownBy_setCell' w1 w.heap.size (.slice (some ⟨g', 0, none⟩) (pre.length + 1) cap')) (.inr (row_low hown' (show w.heap.size < w.heap.size + 2 by omega)).symm)
    have hs2 := hs1.other (show w.heap.size + 1 ≠ w.heap.size by omega) (.slice (some ⟨g', 0, none⟩) (pre.length + 1) cap')
    have hc1 := hv1.cell
    have hf1 := hv1.frozen
    gi_wp2
    refine ⟨(hk'.trans hk2).from _, hB'.trans hb2, ⟨⟨⟨_, hv2, by rw [hsn]; simpa using hr3, trivial⟩, by rw [hsn]; exact hs2⟩, hB.trans (hB'.trans hb2)⟩⟩
  case done =>
    rintro D ys W hD rfl ⟨⟨⟨v, hv, hrow, -⟩, hs⟩, hB⟩ hK
    have hlen : (wl k t).length = k := by simp [wl]
    have hc := hv.cell
    gi_wp2
    refine ⟨by simp, .inl ⟨_, _, rfl, run_takeDeferred hK, ?_⟩⟩
    refine ⟨_, results_tmp2 rfl _ _ _, v, rfl, ownsRow_putObj (ownsRow_weaken (by omega) (hlen ▸ hrow)) _ hK rfl, hB.trans (belowK_b (w := w) (Nat.le_refl _) W D _ _ (by simp at hD; omega) hK rfl rfl)⟩
  case stop =>
    rintro D c pre W _ _ h _
    exact h.elim

end Go.Proofs.Ytjgcfdiicjbdoaa.Pure

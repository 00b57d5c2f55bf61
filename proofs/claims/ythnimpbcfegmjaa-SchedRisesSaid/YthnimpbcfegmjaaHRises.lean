/-
  The law SchedRises, walked by hand: threads that lock in rising order never stand still.
-/
import Derived.Test.YthnimpbcfegmjaaH0
import Derived.Test.YthnimpbcfegmjaaS25
import Derived.Test.YthnimpbcfegmjaaS26
import Derived.Test.YthnimpbcfegmjaaA9
namespace Go.Proofs.Ythnimpbcfegmjaa.Own
open Go.RowKit Go.Proofs.YthnimpbcfegmjaaW.PrintWords Go.Proofs.YthnimpbcfegmjaaW.PrintLast Go.Proofs.YthnimpbcfegmjaaW.PrintMore Go.Proofs.Ythnimpbcfegmjaa.P Go.Proofs.Ythnimpbcfegmjaa.Model
set_option linter.unusedVariables false
set_option linter.unusedSimpArgs false
attribute [local go_sem] max2_int min2_int max_two min_two max_three min_three max_four min_four

/-- The box of the steps and the row of the cells, new. -/
structure Two (w : World) (gs gc : Nat) (W : World) : Prop where
  st : W.heap[gs]? = some (.cells #[.int .i64 0] 3 (0, 0))
  ce : W.heap[gc]? = some (.cells #[.int .i64 0, .int .i64 0, .int .i64 0, .int .i64 0] 3 (0, 0))
  ne : gs ≠ gc
  gs0 : w.heap.size ≤ gs
  gc0 : w.heap.size ≤ gc
  bel : Below w.heap.size w W
theorem made4 : madeCells #[.int .i64 0] 4 = #[.int .i64 0, .int .i64 0, .int .i64 0, .int .i64 0] := by
  have e : (madeCells #[Value.int .i64 0] 4).toList = [.int .i64 0, .int .i64 0, .int .i64 0, .int .i64 0] := by rw [toList_madeCells_one]; rfl
  rw [← e]
theorem two_a (w : World) : Two w (w.alloc (.cells (madeCells #[.int .i64 0] 4) 3)).heap.size w.heap.size (((w.alloc (.cells (madeCells #[.int .i64 0] 4) 3)).alloc (.cells #[.int .i64 0] 3)).setCell ⟨(w.alloc (.cells (madeCells #[.int .i64 0] 4) 3)).heap.size, 0, none⟩ (.int .i64 0)) := by
  have hne : (w.alloc (.cells (madeCells #[.int .i64 0] 4) 3)).heap.size ≠ w.heap.size := by rw [alloc_size]; omega
  have hb : Below w.heap.size w ((w.alloc (.cells (madeCells #[.int .i64 0] 4) 3)).alloc (.cells #[.int .i64 0] 3)) := ((Below.refl _ _).alloc (Nat.le_refl _) _).alloc (by rw [alloc_size]; omega) _
  refine ⟨blk_put (blk_new (w.alloc (.cells (madeCells #[.int .i64 0] 4) 3)) (.cells #[.int .i64 0] 3)) 0 _ rfl, ?_, hne, by rw [alloc_size]; omega, Nat.le_refl _, below_put (k := 0) hb (by rw [alloc_size]; omega) _⟩
  have h1 := blk_alloc (blk_new w (.cells (madeCells #[.int .i64 0] 4) 3)) (.cells #[.int .i64 0] 3)
  rw [made4] at h1 ⊢
  exact blk_far h1 (p := ⟨(w.alloc (.cells #[.int .i64 0, .int .i64 0, .int .i64 0, .int .i64 0] 3)).heap.size, 0, none⟩) (by rw [alloc_size]; exact (Nat.succ_ne_self _).symm) _
theorem two_b (w : World) : Two w w.heap.size (w.alloc (.cells #[.int .i64 0] 3)).heap.size (((w.alloc (.cells #[.int .i64 0] 3)).alloc (.cells (madeCells #[.int .i64 0] 4) 3)).setCell ⟨w.heap.size, 0, none⟩ (.int .i64 0)) := by
  have hb : Below w.heap.size w ((w.alloc (.cells #[.int .i64 0] 3)).alloc (.cells (madeCells #[.int .i64 0] 4) 3)) := ((Below.refl _ _).alloc (Nat.le_refl _) _).alloc (by rw [alloc_size]; omega) _
  refine ⟨blk_put (blk_alloc (blk_new w (.cells #[.int .i64 0] 3)) (.cells (madeCells #[.int .i64 0] 4) 3)) 0 _ rfl, ?_, by rw [alloc_size]; exact (Nat.succ_ne_self _).symm, Nat.le_refl _, by rw [alloc_size]; omega, below_put (k := 0) hb (Nat.le_refl _) _⟩
  have h1 := blk_new (w.alloc (.cells #[.int .i64 0] 3)) (.cells (madeCells #[.int .i64 0] 4) 3)
  rw [made4] at h1 ⊢
  exact blk_far h1 (p := ⟨w.heap.size, 0, none⟩) (by rw [alloc_size]; exact Nat.succ_ne_self _) _
theorem two_c (w : World) : Two w w.heap.size ((w.alloc (.cells #[.int .i64 0] 3)).setCell ⟨w.heap.size, 0, none⟩ (.int .i64 0)).heap.size (((w.alloc (.cells #[.int .i64 0] 3)).setCell ⟨w.heap.size, 0, none⟩ (.int .i64 0)).alloc (.cells (madeCells #[.int .i64 0] 4) 3)) := by
  have hb0 : Below w.heap.size w (w.alloc (.cells #[.int .i64 0] 3)) := (Below.refl _ _).alloc (Nat.le_refl _) _
  have hb := below_put (k := 0) hb0 (Nat.le_refl _) (.int .i64 0)
  have hsz : ((w.alloc (.cells #[.int .i64 0] 3)).setCell ⟨w.heap.size, 0, none⟩ (.int .i64 0)).heap.size = w.heap.size + 1 := by rw [setCell_size, alloc_size]
  refine ⟨blk_alloc (blk_put (blk_new w (.cells #[.int .i64 0] 3)) 0 _ rfl) (.cells (madeCells #[.int .i64 0] 4) 3), ?_, by rw [hsz]; exact (Nat.succ_ne_self _).symm, Nat.le_refl _, by rw [hsz]; omega, hb.alloc (by rw [hsz]; omega) _⟩
  have h1 := blk_new ((w.alloc (.cells #[.int .i64 0] 3)).setCell ⟨w.heap.size, 0, none⟩ (.int .i64 0)) (.cells (madeCells #[.int .i64 0] 4) 3)
  rw [made4] at h1 ⊢
  exact h1
theorem info41 : (Try.prog.info? 41).map (fun i => (i.zero, i.size, i.bytes)) = some (some (.agg #[.int .i64 0, .int .i64 0, .int .i64 0]), 3, 24) := by kernel_rfl
theorem rdT4a {l : List S44} {i : Nat} {x : S44} (h : l[i]? = some x) : rd_T44 l (i : Int) = x := by unfold rd_T44; rw [Int.toNat_natCast, List.getD_eq_getElem?_getD, h]; rfl
def bit (v : Int) (a : Nat) : Bool := bits BinOp.and IntKind.i64 (v / 2 ^ a) 1 == 1
def cI (v : Int) : Nat := (bits BinOp.and IntKind.i64 v 3).toNat
theorem and3 (v : Int) : bits BinOp.and IntKind.i64 v 3 = (cI v : Int) ∧ cI v < 4 := by
  have h1 : (BitVec.ofInt 64 v &&& BitVec.ofInt 64 3).toNat ≤ 3 := by
    rw [BitVec.toNat_and]
    exact Nat.le_trans Nat.and_le_right (by decide)
  have h2 : bits BinOp.and IntKind.i64 v 3 = (((BitVec.ofInt 64 v &&& BitVec.ofInt 64 3).toNat : Nat) : Int) := by
    show IntKind.i64.wrap _ = _
    rw [i64_w]
    show wrap64 (((BitVec.ofInt 64 v &&& BitVec.ofInt 64 3).toNat : Nat) : Int) = _
    unfold wrap64
    omega
  unfold cI
  rw [h2]
  omega
def nI (v : Int) : Int := Int.tmod (Int.tmod v 1000 + 1000) 1000
theorem nI_bd (v : Int) : 0 ≤ nI v ∧ nI v < 1000 ∧ -1000 < Int.tmod v 1000 ∧ Int.tmod v 1000 < 1000 := by
  have h1 := Int.tmod_lt_of_pos v (b := 1000) (by omega)
  have h2 := Int.lt_tmod_of_pos v (b := 1000) (by omega)
  have h3 := Int.tmod_lt_of_pos (Int.tmod v 1000 + 1000) (b := 1000) (by omega)
  have h4 := Int.tmod_nonneg (a := Int.tmod v 1000 + 1000) 1000 (by omega)
  unfold nI
  omega
def lks (v : Int) (a : Nat) : List Nat := (List.range a).filter (bit v)
theorem lks_t {v : Int} {a : Nat} (h : bit v a = true) : lks v (a + 1) = lks v a ++ [a] := by unfold lks; rw [List.range_succ, List.filter_append]; simp [h]
theorem lks_f {v : Int} {a : Nat} (h : bit v a = false) : lks v (a + 1) = lks v a := by unfold lks; rw [List.range_succ, List.filter_append]; simp [h]
theorem lks_len (v : Int) (a : Nat) : (lks v a).length ≤ a := by
  unfold lks
  exact Nat.le_trans (List.length_filter_le _ _) (by simp)
def nd (x : S44) : Nd := ⟨lks x.f0 4, cI x.f1, nI x.f2⟩
theorem nd_ok (x : S44) : Ok (nd x) := by
  obtain ⟨h1, h2, -, -⟩ := nI_bd x.f2
  refine ⟨List.pairwise_lt_range.sublist List.filter_sublist, fun a ha => ?_, (and3 x.f1).2, lks_len _ _, h1, h2⟩
  exact List.mem_range.1 (List.mem_filter.1 ha).1
def thrP (x : S44) (a : Nat) : List S44 := (lks x.f0 4).map lockI ++ (⟨2, cI x.f1, nI x.f2⟩ :: (lks x.f0 a).map unlockI)
theorem thrP_t {x : S44} {a : Nat} (h : bit x.f0 a = true) : thrP x (a + 1) = thrP x a ++ [unlockI a] := by unfold thrP; rw [lks_t h]; simp
theorem thrP_f {x : S44} {a : Nat} (h : bit x.f0 a = false) : thrP x (a + 1) = thrP x a := by unfold thrP; rw [lks_f h]
theorem thrP_len (x : S44) (a : Nat) : (thrP x a).length ≤ 5 + a := by
  have h1 := lks_len x.f0 4
  have h2 := lks_len x.f0 a
  unfold thrP
  simp
  omega
def nds (L : List S44) (k : Nat) : List Nd := (L.take k).map nd
def cells4 (xs : List Nd) : Array Value := #[.int .i64 (cellOf xs 0), .int .i64 (cellOf xs 1), .int .i64 (cellOf xs 2), .int .i64 (cellOf xs 3)]
theorem nBound {α : Type} {d : Kd α} {e base : Nat} {w : World} {ok : Nat → Prop} {v : Value} {xs : List α} (h : Kd.N d e w base ok v xs) : Kd.N d e w base (fun k => ok k ∧ k < w.heap.size) v xs := by
  have hlt := Kd.N_lt h
  obtain ⟨h0, rows, hl, hR, hf⟩ := h
  exact ⟨fun k hk => ⟨h0 k hk, hlt k hk⟩, rows, hl, hR, fun j x c hx hc => Kd.FK_mono (Kd.FK_bound (hf j x c hx hc)) (fun k hk => ⟨⟨hk.1.1, hk.2⟩, hk.1.2⟩)⟩
theorem nds_succ {L : List S44} {k : Nat} {x : S44} (h : L[k]? = some x) : nds L (k + 1) = nds L k ++ [nd x] := by
  unfold nds
  rw [List.take_add_one, h, List.map_append]
  rfl
theorem nds_len {L : List S44} {k : Nat} (h : k ≤ L.length) : (nds L k).length = k := by unfold nds; rw [List.length_map, List.length_take]; omega
theorem nds_ok (L : List S44) (k : Nat) : ∀ x ∈ nds L k, Ok x := by
  intro y hy
  obtain ⟨x, -, rfl⟩ := List.mem_map.1 hy
  exact nd_ok x
theorem steps_add (xs : List Nd) (y : Nd) : steps (xs ++ [y]) = steps xs + len y := by
  unfold steps
  simp
theorem steps_bd {xs : List Nd} (h : ∀ x ∈ xs, Ok x) : steps xs ≤ 9 * xs.length := by
  induction xs with
  | nil => exact Nat.le_refl _
  | cons x xs ih =>
    have h1 := (h x List.mem_cons_self).l4
    have h2 := ih (fun y hy => h y (List.mem_cons_of_mem _ hy))
    unfold steps at h2 ⊢
    rw [List.map_cons, List.sum_cons, List.length_cons]
    unfold len at h2 ⊢
    omega
theorem cellOf_add (xs : List Nd) (y : Nd) (c : Nat) : cellOf (xs ++ [y]) c = cellOf xs c + (if y.c = c then y.n else 0) := by
  unfold cellOf
  simp
theorem cellOf_bd {xs : List Nd} (h : ∀ x ∈ xs, Ok x) (c : Nat) : 0 ≤ cellOf xs c ∧ cellOf xs c ≤ 1000 * xs.length := by
  induction xs with
  | nil => simp [cellOf]
  | cons x xs ih =>
    have h1 := (h x List.mem_cons_self)
    have h2 := ih (fun y hy => h y (List.mem_cons_of_mem _ hy))
    have h3 := h1.n0
    have h4 := h1.n1
    unfold cellOf at h2 ⊢
    rw [List.map_cons, List.sum_cons, List.length_cons]
    split <;> omega
theorem cells4_at (xs : List Nd) {c : Nat} (hc : c < 4) : (cells4 xs)[c]? = some (.int .i64 (cellOf xs c)) := by
  match c, hc with
  | 0, _ => rfl
  | 1, _ => rfl
  | 2, _ => rfl
  | 3, _ => rfl
theorem cells4_put (xs : List Nd) (y : Nd) (hc : y.c < 4) : (cells4 xs).setIfInBounds y.c (.int .i64 (cellOf xs y.c + y.n)) = cells4 (xs ++ [y]) := by
  unfold cells4
  rw [cellOf_add, cellOf_add, cellOf_add, cellOf_add]
  match h : y.c, hc with
  | 0, _ => simp
  | 1, _ => simp
  | 2, _ => simp
  | 3, _ => simp
theorem four_CI {W : World} {g : Nat} {a b c d : Int} (hb : W.heap[g]? = some (.cells #[.int .i64 a, .int .i64 b, .int .i64 c, .int .i64 d] 3 (0, 0))) : CI W (some ⟨g, 0, none⟩) [a, b, c, d] := by
  refine ⟨rfl, by simp, fun _ => ⟨_, rfl, fun j p hj => ?_⟩⟩
  refine ⟨[.int .i64 p], rfl, rfl, fun i u hu => ?_⟩
  match i, hu with
  | 0, hu =>
    rw [add_plain, blk_cell hb]
    match j, hj with
    | 0, hj =>
      obtain rfl : a = p := by simpa using hj
      exact hu
    | 1, hj =>
      obtain rfl : b = p := by simpa using hj
      exact hu
    | 2, hj =>
      obtain rfl : c = p := by simpa using hj
      exact hu
    | 3, hj =>
      obtain rfl : d = p := by simpa using hj
      exact hu
    | j + 4, hj => simp at hj
theorem rose_bd {xs : List Nd} {r : Syst × List Int} (h : Rose xs r) : Bd r.1 := shp_bd (right_shp h.right)
theorem doneR {xs : List Nd} {r : Syst × List Int} {q : Ad} {W : World} (h : Rose xs r) (hs : SysC W r.1 q) : Calls Try.prog 18 #[.agg (sysA r.1 q)] W (fun e w' => e = .returned (.tuple #[.bool true, .int .i64 0]) ∧ Below W.heap.size W w') :=
  (xDone_calls r.1 q W hs (rose_bd h)).mono (by
    rintro e w' ⟨rfl, hb⟩
    rw [h.right, h.done]
    exact ⟨rfl, hb⟩)
theorem numCe {xs : List Nd} {r : Syst × List Int} {q : Ad} {W : World} {gc : Nat} (h : Rose xs r) (hs : SysC W r.1 q) (hg : W.heap[gc]? = some (.cells (cells4 xs) 3 (0, 0))) : Calls Try.prog 14 #[.slice q.a4 r.1.ce.length q.c4, .slice (some ⟨gc, 0, none⟩) 4 4] W (fun e w' => e = .returned (.bool true) ∧ Below W.heap.size W w') := by
  have h1 := hs.r4
  have h2 := hs.h4
  rw [h.ce] at h1 h2 ⊢
  exact numC q.a4 (some ⟨gc, 0, none⟩) q.c4 4 (cellsL xs) W h1 h2 (four_CI hg) (Nat.le_refl _) (by simp [cellsL])
theorem numLo {xs : List Nd} {r : Syst × List Int} {q p : Ad} {S0 : Syst} {W : World} (h : Rose xs r) (hs : SysC W r.1 q) (hs0 : SysC W S0 p) (hlo : S0.lo = [-1, -1, -1, -1]) : Calls Try.prog 14 #[.slice q.a3 r.1.lo.length q.c3, .slice p.a3 S0.lo.length p.c3] W (fun e w' => e = .returned (.bool true) ∧ Below W.heap.size W w') := by
  have h1 := hs.r3
  have h2 := hs.h3
  have h3 := hs0.r3
  have h4 := hs0.h3
  rw [h.lo] at h1 h2 ⊢
  rw [hlo] at h3 h4 ⊢
  exact numC q.a3 p.a3 q.c3 p.c3 [-1, -1, -1, -1] W h1 h2 h3 h4 (by simp)
/-- What a run beside a new box leaves: the answer, its places, the row of who went, the box, the picks. -/
structure JQ where
  r : Syst × List Int
  q : Ad
  B : Option Addr
  d : Nat
  g : Nat
  B1 : Option Addr
  d1 : Nat
structure JG (v : World) (xs : List Nd) (W : World) (t : JQ) : Prop where
  rose : Rose xs t.r
  sys : SysC (hid (fun k => k == t.g) W) t.r.1 t.q
  blk : W.heap[t.g]? = some (.cells z6 26 (0, 0))
  ge : v.heap.size ≤ t.g
  bel : Below v.heap.size v W
structure JH (v : World) (xs : List Nd) (W : World) (r : Syst × List Int) (q : Ad) (g : Nat) : Prop where
  rose : Rose xs r
  sys : SysC W r.1 q
  blk : W.heap[g]? = some (.cells (sysA r.1 q) 26 (0, 0))
  bel : Below v.heap.size v W
theorem JH.below {v W W' : World} {xs : List Nd} {r : Syst × List Int} {q : Ad} {g : Nat} (h : JH v xs W r q g) (hb : Below W.heap.size W W') : JH v xs W' r q g := ⟨h.rose, h.sys.below hb, blk_below h.blk hb, below_then h.bel h.bel.size hb⟩
theorem JG.callFirst {v u : World} {xs : List Nd} {r : Syst × List Int} {q : Ad} {B B1 : Option Addr} {d d1 : Nat} (h : Rose xs r) (hs : SysC (hid (fun _ => false) u) r.1 q) (hb : Below v.heap.size v u) : JG v xs (u.alloc (.cells z6 26)) ⟨r, q, B, d, u.heap.size, B1, d1⟩ :=
  have hb2 : Below u.heap.size u (u.alloc (.cells z6 26)) := (Below.refl _ _).alloc (Nat.le_refl _) _
  ⟨h, (hs.up (hid_up _ _)).up (up_new hb2 (fun k hk => by have h1 : k = u.heap.size := beq_iff_eq.1 hk; omega)), blk_new u _, hb.size, below_then hb hb.size hb2⟩
theorem JG.allocFirst {v w0 u : World} {xs : List Nd} {r : Syst × List Int} {q : Ad} {B B1 : Option Addr} {d d1 : Nat} (h : Rose xs r) (hb0 : Below v.heap.size v w0) (hs : SysC (hid (fun k => k == w0.heap.size) u) r.1 q) (hb : Below (w0.alloc (.cells z6 26)).heap.size (w0.alloc (.cells z6 26)) u) : JG v xs u ⟨r, q, B, d, w0.heap.size, B1, d1⟩ :=
  have hb2 : Below v.heap.size v (w0.alloc (.cells z6 26)) := hb0.alloc hb0.size _
  ⟨h, hs, blk_below (blk_new w0 _) hb, hb0.size, below_then hb2 hb2.size hb⟩
theorem JG.store {v W : World} {xs : List Nd} {t : JQ} (h : JG v xs W t) : JH v xs ((((((W.setCell ⟨t.g, 0, none⟩ (.slice t.q.a0 t.r.1.th.length t.q.c0)).setCell ⟨t.g, 1, none⟩ (.slice t.q.a1 t.r.1.at_.length t.q.c1)).setCell ⟨t.g, 2, none⟩ (.slice t.q.a2 t.r.1.su.length t.q.c2)).setCell ⟨t.g, 3, none⟩ (.slice t.q.a3 t.r.1.lo.length t.q.c3)).setCell ⟨t.g, 4, none⟩ (.slice t.q.a4 t.r.1.ce.length t.q.c4)).setCell ⟨t.g, 5, none⟩ (.slice t.q.a5 t.r.1.ch.length t.q.c5)) t.r t.q t.g :=
  ⟨h.rose, (h.sys.up (hid_six (by simp))).up (hid_up _ _), six_put _ _ _ _ _ _ h.blk, below_six h.bel h.ge⟩
theorem full_cap (A : Option Addr) (c : Nat) (l : List Int) (gs n : Nat) (w : World) (hC : CI w A l) (hc : l.length ≤ c) (hg : w.heap[gs]? = some (.cells #[.int .i64 (n : Int)] 3 (0, 0))) (hn : n ≤ 100) : Calls Try.prog 16 (#[.slice A l.length c] ++ #[.pointer (some ⟨gs, 0, none⟩)]) w (fun e w' => ∃ B d L, L.length = n ∧ e = .returned (.slice B n d) ∧ n ≤ d ∧ CI w' B L ∧ Below w.heap.size w w') :=
  full_calls A c l gs n w hC hc hg hn
def RunT (P : Nat → Bool) (xs : List Nd) (n : Nat) (W : World) (e : Ending) (w' : World) : Prop := ∃ r q B d, Rose xs r ∧ e = .returned (.tuple #[.agg (sysA r.1 q), .slice B n d, .int .i64 0]) ∧ SysC (hid P w') r.1 q ∧ Below W.heap.size W w'
theorem run_rose {P : Nat → Bool} {xs : List Nd} {n d1 : Nat} {S0 : Syst} {p7 : Ad} {B1 : Option Addr} {L1 : List Int} {W : World} (hr : rightB S0 = true) (hR : ∀ l : List Int, l.length = n → Rose xs (runS S0 l)) (hn : steps xs = n) (hn2 : n ≤ 100) (hS : SysC (hid P W) S0 p7) (hP : ∀ k, P k = true → k < W.heap.size) (hL : CI W B1 L1) (hl : L1.length = n) : Calls Try.prog 9 #[.agg (sysA S0 p7), .slice B1 n d1] W (RunT P xs n W) := by
  have h1 := xRun_calls P S0 p7 B1 d1 L1 W hS hP (shp_bd (right_shp hr)) hL (by omega)
  rw [hl] at h1
  refine h1.mono ?_
  rintro e w' ⟨q, v, rfl, hs, hrow, hb⟩
  have hx : xRun S0 L1 = runS S0 L1 := by unfold xRun; rw [if_pos hr]
  rw [hx] at hs hrow ⊢
  rw [hr]
  obtain ⟨B, d, rfl⟩ := row_slice hrow
  have hro := hR L1 hl
  refine ⟨runS S0 L1, q, B, d, hro, ?_, hs, hb⟩
  rw [hro.went, hn]
  rfl
/-- The outer loop's world: the steps' box, the cells' row, the threads so far. -/
structure OutS (w : World) (L : List S44) (gs gc k : Nat) (v7 : Value) (W : World) : Prop where
  st : W.heap[gs]? = some (.cells #[.int .i64 ((steps (nds L k) : Nat) : Int)] 3 (0, 0))
  ce : W.heap[gc]? = some (.cells (cells4 (nds L k)) 3 (0, 0))
  row : Kd.N (Kd.slice 44 k44) 42 W w.heap.size (fun b => b ≠ gs ∧ b ≠ gc) v7 ((nds L k).map thr)
  bel : Below w.heap.size w W
set_option maxRecDepth 100000 in
set_option maxHeartbeats 16000000 in
theorem risesLaw_calls (A0 : Option Addr) (c0 : Nat) (l0 : List S44) (A1 : Option Addr) (c1 : Nat) (l1 : List Int) (A2 : Option Addr) (c2 : Nat) (l2 : List Int) (w : World) (h0 : k44.C w A0 l0.length l0) (hc0 : l0.length ≤ c0) (h1 : CI w A1 l1) (hc1 : l1.length ≤ c1) (h2 : CI w A2 l2) (hc2 : l2.length ≤ c2) : Calls Try.prog 4 #[.slice A0 l0.length c0, .slice A1 l1.length c1, .slice A2 l2.length c2] w (fun e w' => e = .returned (.bool true) ∧ Below w.heap.size w w') := by
  have qk4 : ∀ W : World, (Instr.makeSlice 23 (.int .i64 4) (.int .i64 4)).run Try.prog W = .ok (.slice (some ⟨W.heap.size, 0, none⟩) 4 4) (W.alloc (.cells (madeCells #[.int .i64 0] 4) 3)) := fun W => run_make_row' (P := Try.prog) 23 3 (.int .i64 0) 8 Try.underlying23 info3 rfl .i64 .i64 4 (by decide) (by decide) W
  have H0 := Aside0.mk h0
  have H1 := Aside0.mk h1
  have H2 := Aside0.mk h2
  have HC0 := Aside0.mk hc0
  have HC1 := Aside0.mk hc1
  have HC2 := Aside0.mk hc2
  clear h0 h1 h2 hc0 hc1 hc2
  go_enter Try.func4, Try.ntmps4
  go_wp2
  refine start_ (n := 4) (S := fun _ => True) (ds := []) #[false, false, false, false] (by kernel_rfl) rfl rfl trivial (fun _ => ?_)
  generalize hv0 : w.drew = v0
  refine join_ (σ := Nat × Nat) 1 #[true, true, true, false] (fun q => [(29, .slice (some ⟨q.2, 0, none⟩) 4 4), (8, .pointer (some ⟨q.1, 0, none⟩))]) (fun q W => Two v0 q.1 q.2 W) ?_ ?_
  rotate_left
  · intro hc
    refine two_ (i := 0) (j := 1) (Ni := some 29) (Nj := some 8) #[true, false, false, false] #[false, true, false, false] rfl rfl rfl rfl (by kernel_rfl) (by decide) (by decide) (fun K hK => ?_) (fun K hK => ?_)
    · skip
      refine value_ (v := .slice (some ⟨v0.heap.size, 0, none⟩) 4 4) (w1 := v0.alloc (.cells (madeCells #[.int .i64 0] 4) 3)) (by rfl) rfl (by go_simp) ?_
      refine hK.out _ _ trivial (fun _ => ?_)
      clear hK K
      refine norm_ (a' := ?_) ?_ ?_
      rotate_left
      · show Act.put _ (some 29) _ = _
        simp only [Act.put, List.setIfInBounds_toArray, List.set_cons_zero, List.set_cons_succ, i64_w, i32_w]
        rfl
      refine one_ (i := 1) (N := some 8) #[true, true, false, false] rfl rfl (by kernel_rfl) (by decide) (fun K hK => ?_)
      generalize hv1 : v0.alloc (.cells (madeCells #[.int .i64 0] 4) 3) = v1
      refine value_ (v := .pointer (some ⟨v1.heap.size, 0, none⟩)) (w1 := v1.alloc (.cells #[.int .i64 0] 3)) (by rfl) rfl (by go_simp) ?_
      refine hK.out _ _ trivial (fun _ => ?_)
      clear hK K
      refine norm_ (a' := ?_) ?_ ?_
      rotate_left
      · show Act.put _ (some 8) _ = _
        simp only [Act.put, List.setIfInBounds_toArray, List.set_cons_zero, List.set_cons_succ, i64_w, i32_w]
        rfl
      refine one_ (i := 2) (N := none) #[true, true, true, false] rfl rfl (by kernel_rfl) (by decide) (fun K hK => ?_)
      have hc1 := blk_cell (blk_new v1 (.cells #[.int .i64 0] 3)) 0
      have hf1 := blk_frozen (blk_new v1 (.cells #[.int .i64 0] 3)) 0
      refine skip_ (w1 := (v1.alloc (.cells #[.int .i64 0] 3)).setCell ⟨v1.heap.size, 0, none⟩ (.int .i64 0)) (by rfl) rfl (by go_simp) ?_
      subst hv1
      refine hK.out _ _ trivial (fun _ => norm_ ?_ (hc ((v0.alloc (.cells (madeCells #[.int .i64 0] 4) 3)).heap.size, v0.heap.size) _ (two_a v0)))
      simp only [putAll, Act.put, List.setIfInBounds_toArray, List.set_cons_zero, List.set_cons_succ]
    · skip
      refine value_ (v := .pointer (some ⟨v0.heap.size, 0, none⟩)) (w1 := v0.alloc (.cells #[.int .i64 0] 3)) (by rfl) rfl (by go_simp) ?_
      refine hK.out _ _ trivial (fun _ => ?_)
      clear hK K
      refine norm_ (a' := ?_) ?_ ?_
      rotate_left
      · show Act.put _ (some 8) _ = _
        simp only [Act.put, List.setIfInBounds_toArray, List.set_cons_zero, List.set_cons_succ, i64_w, i32_w]
        rfl
      have hb1 := blk_new v0 (.cells #[.int .i64 0] 3)
      generalize hv1 : v0.alloc (.cells #[.int .i64 0] 3) = v1 at hb1 ⊢
      refine two_ (i := 0) (j := 2) (Ni := some 29) (Nj := none) #[true, true, false, false] #[false, true, true, false] rfl rfl rfl rfl (by kernel_rfl) (by decide) (by decide) (fun K hK => ?_) (fun K hK => ?_)
      · skip
        refine value_ (v := .slice (some ⟨v1.heap.size, 0, none⟩) 4 4) (w1 := v1.alloc (.cells (madeCells #[.int .i64 0] 4) 3)) (by rfl) rfl (by go_simp) ?_
        refine hK.out _ _ trivial (fun _ => ?_)
        clear hK K
        refine norm_ (a' := ?_) ?_ ?_
        rotate_left
        · show Act.put _ (some 29) _ = _
          simp only [Act.put, List.setIfInBounds_toArray, List.set_cons_zero, List.set_cons_succ, i64_w, i32_w]
          rfl
        refine one_ (i := 2) (N := none) #[true, true, true, false] rfl rfl (by kernel_rfl) (by decide) (fun K hK => ?_)
        have hc1 := blk_cell (blk_alloc hb1 (.cells (madeCells #[.int .i64 0] 4) 3)) 0
        have hf1 := blk_frozen (blk_alloc hb1 (.cells (madeCells #[.int .i64 0] 4) 3)) 0
        refine skip_ (w1 := (v1.alloc (.cells (madeCells #[.int .i64 0] 4) 3)).setCell ⟨v0.heap.size, 0, none⟩ (.int .i64 0)) (by rfl) rfl (by go_simp) ?_
        subst hv1
        refine hK.out _ _ trivial (fun _ => norm_ ?_ (hc (v0.heap.size, (v0.alloc (.cells #[.int .i64 0] 3)).heap.size) _ (two_b v0)))
        simp only [putAll, Act.put, List.setIfInBounds_toArray, List.set_cons_zero, List.set_cons_succ]
      · skip
        have hc1 := blk_cell hb1 0
        have hf1 := blk_frozen hb1 0
        refine skip_ (w1 := v1.setCell ⟨v0.heap.size, 0, none⟩ (.int .i64 0)) (by rfl) rfl (by go_simp) ?_
        refine hK.out _ _ trivial (fun _ => ?_)
        clear hK K hc1 hf1
        refine one_ (i := 0) (N := some 29) #[true, true, true, false] rfl rfl (by kernel_rfl) (by decide) (fun K hK => ?_)
        generalize hv2 : v1.setCell ⟨v0.heap.size, 0, none⟩ (.int .i64 0) = v2
        refine value_ (v := .slice (some ⟨v2.heap.size, 0, none⟩) 4 4) (w1 := v2.alloc (.cells (madeCells #[.int .i64 0] 4) 3)) (by rfl) rfl (by go_simp) ?_
        subst hv2 hv1
        refine hK.out _ _ trivial (fun _ => norm_ ?_ (hc (v0.heap.size, ((v0.alloc (.cells #[.int .i64 0] 3)).setCell ⟨v0.heap.size, 0, none⟩ (.int .i64 0)).heap.size) _ (two_c v0)))
        simp only [putAll, Act.put, List.setIfInBounds_toArray, List.set_cons_zero, List.set_cons_succ]
  rintro ⟨gs, gc⟩ W0 hT
  have HT := Aside0.mk hT
  clear hT
  dsimp only at HT
  refine norm_ (a' := ?_) ?_ ?_
  rotate_left
  · simp only [putAll, Act.put, List.setIfInBounds_toArray, List.set_cons_zero, List.set_cons_succ]
    rfl
  refine pure_ (i := 3) (N := some 9) (v := ?_) (a' := ?_) #[true, true, true, true] rfl rfl (by kernel_rfl) (fun _ _ _ h => h) (Or.inl ⟨by rfl, ?_⟩) ?_ ?_
  rotate_left
  · intro w'
    go_simp
    with_reducible rfl
  rotate_left
  · simp only [Act.put, List.setIfInBounds_toArray, List.set_cons_zero, List.set_cons_succ, i64_w, i32_w]
    rfl
  refine done_ (by kernel_rfl) ?_
  clear qk4
  obtain ⟨L, hL⟩ : ∃ L, L = l0.take 8 := ⟨_, rfl⟩
  have hLn : L.length = min l0.length 8 := by rw [hL, List.length_take]; omega
  have HL8 : Aside0 (L.length ≤ 8) := ⟨by omega⟩
  have qm : (if 8 < (l0.length : Int) then (8 : Int) else (l0.length : Int)) = (L.length : Int) := by split <;> omega
  have qc : ∀ W : World, (Instr.slice 39 (.slice A0 l0.length c0) none (some (.int .i64 (L.length : Int))) none).run Try.prog W = .ok (.slice A0 L.length c0) W := fun W => by
    obtain ⟨i, hi, hz0, -⟩ := info_parts info41
    have h3 := cut_to (P := Try.prog) 39 41 .i64 Try.underlying39 hi A0 l0.length c0 (L.length : Int) (by omega) (by omega) HC0.out W
    rw [Int.toNat_natCast] at h3
    exact h3
  have HLC : Aside0 (k44.C w A0 L.length L) := ⟨by
    have h2 := Kd.C_take H0.out (m := min l0.length 8) (by omega)
    rw [take_min, ← hL] at h2
    exact h2⟩
  have HBT : Aside0 (Below w.heap.size w W0) := ⟨by
    have h1 := HT.out.bel
    rw [← hv0] at h1
    exact below_then (below_drew (Below.refl _ _)) (Nat.le_refl _) h1⟩
  have HSZ : Aside0 (w.heap.size ≤ gs ∧ w.heap.size ≤ gc) := ⟨by
    have h1 := HT.out.gs0
    have h2 := HT.out.gc0
    rw [← hv0] at h1 h2
    exact ⟨h1, h2⟩⟩
  have HNE := Aside0.mk HT.out.ne
  have HO : Aside0 (OutS w L gs gc 0 (.slice none 0 0) W0) := ⟨⟨HT.out.st, HT.out.ce, Kd.N_nil _ _ _ _ _, HBT.out⟩⟩
  clear hL hLn hv0 HT
  go_wp2
  clear qm qc
  go_loopw [7, 36] (fun v7 v36 W => ∃ k : Nat, k ≤ L.length ∧ v36 = .int .i64 k ∧ Aside0 (OutS w L gs gc k v7 W)) (fun _ v36 _ => L.length - (intOf v36).toNat)
  case atStart => exact ⟨0, Nat.zero_le _, rfl, HO⟩
  case round =>
    clear HO HBT
    obtain ⟨k, hk, rfl, HO⟩ := hrel
    by_cases hlt : k < L.length
    · obtain ⟨x, hx⟩ : ∃ x, L[k]? = some x := ⟨_, List.getElem?_eq_getElem hlt⟩
      obtain ⟨ad, rfl, t0, t1, t2⟩ := at_T44 (Kd.C_below HLC.out HO.out.bel) (k : Int) (by omega) (by omega)
      rw [rdT4a hx, Int.toNat_natCast] at t0 t1 t2
      go_wp2
      have HGX := Aside0.mk (blk_new wr (.cells #[.int .i64 x.f0, .int .i64 x.f1, .int .i64 x.f2] 41))
      have HBX : Aside0 (Below wr.heap.size wr (wr.alloc (.cells #[.int .i64 x.f0, .int .i64 x.f1, .int .i64 x.f2] 41))) := ⟨(Below.refl _ _).alloc (Nat.le_refl _) _⟩
      have HST := Aside0.mk (blk_below HO.out.st HBX.out)
      have HCE := Aside0.mk (blk_below HO.out.ce HBX.out)
      have HNR := Aside0.mk (Kd.N_below (nBound HO.out.row) HBX.out)
      have HBW := Aside0.mk (HO.out.bel.trans (HBX.out.mono HO.out.bel.size))
      have HGM : Aside0 (wr.heap.size < (wr.alloc (.cells #[.int .i64 x.f0, .int .i64 x.f1, .int .i64 x.f2] 41)).heap.size) := ⟨blk_lt HGX.out⟩
      have HNL := Aside0.mk (Kd.N_lt HO.out.row)
      have HGS : Aside0 (gs < wr.heap.size ∧ gc < wr.heap.size) := ⟨blk_lt HO.out.st, blk_lt HO.out.ce⟩
      have HWS := Aside0.mk HO.out.bel.size
      clear HO HBX
      generalize wr.alloc (.cells #[.int .i64 x.f0, .int .i64 x.f1, .int .i64 x.f2] 41) = wM at *
      generalize wr.heap.size = gx at *
      go_loopw [12, 40] (fun v12 v40 W => ∃ a : Nat, a ≤ 4 ∧ v40 = .int .i64 a ∧ Aside0 (Below wM.heap.size wM W) ∧ Aside0 (Kd.R k44 44 W wM.heap.size (fun b => wM.heap.size ≤ b) v12 ((lks x.f0 a).map lockI))) (fun _ v40 _ => 4 - (intOf v40).toNat)
      case atStart => exact ⟨0, Nat.zero_le _, rfl, ⟨Below.refl _ _⟩, ⟨Kd.R_nil _ _ _ _ _⟩⟩
      case round =>
        obtain ⟨a, ha, rfl, HBM, HR⟩ := hrel
        by_cases ha4 : a < 4
        · have p0 : wr.cell? ⟨gx, 0, none⟩ = some (.int .i64 x.f0) := blk_cell (blk_below HGX.out HBM.out) 0
          cases hb : bit x.f0 a with
          | true =>
            have HK := Aside0.mk (lks_t hb)
            have hbb : (bits BinOp.and IntKind.i64 (x.f0 / 2 ^ a) 1 == 1) = true := hb
            clear hb
            go_wp2_with (at_builtin; refine hold ?_)
            refine ⟨?_⟩
            refine Kd.R_append k44 (w0 := wM) wM.heap.size rfl _ _ 42 44 _ 24 rfl Try.underlying42 info44 rfl (by decide) (by decide) u12 ((lks x.f0 a).map lockI) (lockI a) [.int .i64 0, .int .i64 (a : Int), .int .i64 0] (fun b => wM.heap.size ≤ b) (fun _ => False) rfl rfl (k44_mkM _ _ _ (lockI a)) (fun _ h => h.elim) (fun k hk => Nat.le_trans (HBM.out.size) hk) HR.out HBM.out (HBM.out.size) (by have := lks_len x.f0 a; simp; omega) ?_
            intro v1 w1 hr hb1 hg hat
            have HR1 := Aside0.mk hr
            have HB1 := Aside0.mk hb1
            clear hr hb1 hg hat
            go_wp2
            go_roundw
            case rel => exact ⟨a + 1, ha4, by go_num, ⟨HB1.out⟩, ⟨by rw [HK.out, List.map_append]; exact HR1.out⟩⟩
            case measure => simp [intOf]; omega
          | false =>
            have HK := Aside0.mk (lks_f hb)
            have hbb : (bits BinOp.and IntKind.i64 (x.f0 / 2 ^ a) 1 == 1) = false := hb
            clear hb
            go_wp2
            go_roundw
            case rel => exact ⟨a + 1, ha4, by go_num, ⟨HBM.out⟩, ⟨by rw [HK.out]; exact HR.out⟩⟩
            case measure => simp [intOf]; omega
        · obtain rfl : a = 4 := by omega
          have p1 : wr.cell? ⟨gx, 1, none⟩ = some (.int .i64 x.f1) := blk_cell (blk_below HGX.out HBM.out) 1
          have p2 : wr.cell? ⟨gx, 2, none⟩ = some (.int .i64 x.f2) := blk_cell (blk_below HGX.out HBM.out) 2
          obtain ⟨n0, n1, n2, n3⟩ := nI_bd x.f2
          have hcv := cellOf_bd (nds_ok L k) (cI x.f1)
          rw [nds_len hk] at hcv
          have HEW : Aside0 (wrap64 (cellOf (nds L k) (cI x.f1) + nI x.f2) = cellOf (nds L k) (cI x.f1) + nI x.f2) := ⟨by unfold wrap64; have := HL8.out; omega⟩
          have e1 : wrap64 (Int.tmod x.f2 1000 + 1000) = Int.tmod x.f2 1000 + 1000 := by unfold wrap64; omega
          have e2 : Int.tmod (Int.tmod x.f2 1000 + 1000) 1000 = nI x.f2 := rfl
          have e3 := (and3 x.f1).1
          have hc4 := (and3 x.f1).2
          clear hcv n2 n3
          have HWM : Aside0 (w.heap.size ≤ wM.heap.size) := ⟨HBW.out.size⟩
          go_wp2_with (at_builtin; refine hold ?_)
          refine ⟨?_⟩
          refine Kd.R_append k44 (w0 := wM) wM.heap.size rfl _ _ 42 44 _ 24 rfl Try.underlying42 info44 rfl (by decide) (by decide) u12 ((lks x.f0 4).map lockI) (⟨2, (cI x.f1 : Int), nI x.f2⟩) [.int .i64 2, .int .i64 (cI x.f1 : Int), .int .i64 (nI x.f2)] (fun b => wM.heap.size ≤ b) (fun _ => False) rfl rfl (k44_mkM _ _ _ (⟨2, (cI x.f1 : Int), nI x.f2⟩)) (fun _ h => h.elim) (fun k hk => Nat.le_trans (HBM.out.size) hk) HR.out HBM.out (HBM.out.size) (by have := lks_len x.f0 4; simp; omega) ?_
          intro v1 w1 hr hb1 hg hat
          have HGX1 := Aside0.mk (blk_low hb1 HGM.out HGX.out)
          have HST1 := Aside0.mk (blk_low hb1 (Nat.lt_trans HGS.out.1 HGM.out) HST.out)
          have HCE1 := Aside0.mk (blk_low hb1 (Nat.lt_trans HGS.out.2 HGM.out) HCE.out)
          have p3 : w1.cell? ⟨gx, 1, none⟩ = some (.int .i64 x.f1) := blk_cell HGX1.out 1
          have p4 : w1.cell? ⟨gc, cI x.f1, none⟩ = some (.int .i64 (cellOf (nds L k) (cI x.f1))) := (blk_cell HCE1.out (cI x.f1)).trans (cells4_at _ hc4)
          have p5 := blk_frozen HCE1.out (cI x.f1)
          have ew := HEW.out
          have HST5 := Aside0.mk (blk_far HST1.out (p := ⟨gc, cI x.f1, none⟩) HNE.out (.int .i64 (cellOf (nds L k) (cI x.f1) + nI x.f2)))
          have HCE5 := Aside0.mk (blk_put HCE1.out (cI x.f1) (.int .i64 (cellOf (nds L k) (cI x.f1) + nI x.f2)) (cells4_put (nds L k) (nd x) hc4))
          have HGX5 := Aside0.mk (blk_far HGX1.out (p := ⟨gc, cI x.f1, none⟩) (Nat.ne_of_gt HGS.out.2) (.int .i64 (cellOf (nds L k) (cI x.f1) + nI x.f2)))
          have HN5 := Aside0.mk (Kd.N_far (Kd.N_step HNR.out (fun b hb _ => hb1.block b (Nat.lt_trans hb.2 HGM.out))) (p := ⟨gc, cI x.f1, none⟩) (fun b hb => hb.1.2) (.int .i64 (cellOf (nds L k) (cI x.f1) + nI x.f2)))
          have HR5 := Aside0.mk (Kd.R_far hr (p := ⟨gc, cI x.f1, none⟩) (fun b hb => by show b ≠ gc; have h1 := HGS.out; have h2 := HGM.out; omega) (.int .i64 (cellOf (nds L k) (cI x.f1) + nI x.f2)))
          have HBW5 := Aside0.mk (below_put (k := cI x.f1) (HBW.out.trans (hb1.mono HWM.out)) HSZ.out.2 (.int .i64 (cellOf (nds L k) (cI x.f1) + nI x.f2)))
          have HM5 : Aside0 (wM.heap.size ≤ (w1.setCell ⟨gc, cI x.f1, none⟩ (.int .i64 (cellOf (nds L k) (cI x.f1) + nI x.f2))).heap.size) := ⟨by rw [setCell_size]; exact hb1.size⟩
          clear hr hb1 hg hat p1 p2 HST HCE HNR HGX HBW HST1 HCE1 HGX1 HR HBM
          go_wp2
          generalize w1.setCell ⟨gc, cI x.f1, none⟩ (.int .i64 (cellOf (nds L k) (cI x.f1) + nI x.f2)) = w5 at *
          clear p3 p4 p5 ew e1 e2 e3 HEW
          go_loopw [12, 77] (fun v12 v77 W => ∃ a : Nat, a ≤ 4 ∧ v77 = .int .i64 a ∧ Aside0 (Below wM.heap.size w5 W) ∧ Aside0 (Kd.R k44 44 W wM.heap.size (fun b => wM.heap.size ≤ b) v12 (thrP x a))) (fun _ v77 _ => 4 - (intOf v77).toNat)
          case atStart => exact ⟨0, Nat.zero_le _, rfl, ⟨Below.refl _ _⟩, ⟨HR5.out⟩⟩
          case round =>
            clear HR5
            obtain ⟨a, ha, rfl, HB6, HR⟩ := hrel
            have HM6 := Aside0.mk (Nat.le_trans HM5.out HB6.out.size)
            by_cases ha4 : a < 4
            · have p0 : wr.cell? ⟨gx, 0, none⟩ = some (.int .i64 x.f0) := blk_cell (blk_low HB6.out HGM.out HGX5.out) 0
              cases hb : bit x.f0 a with
              | true =>
                have HK := Aside0.mk (thrP_t hb)
                have hbb : (bits BinOp.and IntKind.i64 (x.f0 / 2 ^ a) 1 == 1) = true := hb
                clear hb
                go_wp2_with (at_builtin; refine hold ?_)
                refine ⟨?_⟩
                refine Kd.R_append k44 (w0 := w5) wM.heap.size rfl _ _ 42 44 _ 24 rfl Try.underlying42 info44 rfl (by decide) (by decide) u12 (thrP x a) (unlockI a) [.int .i64 1, .int .i64 (a : Int), .int .i64 0] (fun b => wM.heap.size ≤ b) (fun _ => False) rfl rfl (k44_mkM _ _ _ (unlockI a)) (fun _ h => h.elim) (fun k hk => Nat.le_trans (HM6.out) hk) HR.out HB6.out (HM6.out) (by have := thrP_len x a; omega) ?_
                intro v1 w7 hr hb1 hg hat
                have HR1 := Aside0.mk hr
                have HB1 := Aside0.mk hb1
                clear hr hb1 hg hat
                go_wp2
                go_roundw
                case rel => exact ⟨a + 1, ha4, by go_num, ⟨HB1.out⟩, ⟨by rw [HK.out]; exact HR1.out⟩⟩
                case measure => simp [intOf]; omega
              | false =>
                have HK := Aside0.mk (thrP_f hb)
                have hbb : (bits BinOp.and IntKind.i64 (x.f0 / 2 ^ a) 1 == 1) = false := hb
                clear hb
                go_wp2
                go_roundw
                case rel => exact ⟨a + 1, ha4, by go_num, ⟨HB6.out⟩, ⟨by rw [HK.out]; exact HR.out⟩⟩
                case measure => simp [intOf]; omega
            · obtain rfl : a = 4 := by omega
              have HST6 := Aside0.mk (blk_low HB6.out (Nat.lt_trans HGS.out.1 HGM.out) HST5.out)
              have HCE6 := Aside0.mk (blk_low HB6.out (Nat.lt_trans HGS.out.2 HGM.out) HCE5.out)
              have HN6 := Aside0.mk (Kd.N_step HN5.out (fun b hb _ => HB6.out.block b (Nat.lt_trans hb.2 HGM.out)))
              have HNO : Aside0 (∀ b, u7.ownBlock = some b → b ≠ gs ∧ b ≠ gc) := ⟨fun b hb => (HN6.out.1 b hb).1⟩
              have HBW6 := Aside0.mk (HBW5.out.trans (HB6.out.mono (Nat.le_trans HWM.out (Nat.le_refl _))))
              obtain ⟨B, d, eB⟩ := Kd.R_slice HR.out
              subst eB
              have HTD : Aside0 ((thrP x 4).length ≤ d) := ⟨(Kd.R_reads' HR.out).2.1⟩
              have HTF : Aside0 (Kd.F k44 wr (fun b => wM.heap.size ≤ b) B (thrP x 4).length (thrP x 4)) := ⟨Kd.R_F HR.out⟩
              have HEW2 : Aside0 (wrap64 (((steps (nds L k) : Nat) : Int) + ((thrP x 4).length : Int)) = ((steps (nds L k) + (thrP x 4).length : Nat) : Int)) := ⟨by
                have h1 := steps_bd (nds_ok L k)
                rw [nds_len hk] at h1
                have h2 := thrP_len x 4
                have h3 := HL8.out
                unfold wrap64
                omega⟩
              clear HST5 HCE5 HN5 HBW5 HGX5 HB6 HR HM5
              have q0 := blk_cell HST6.out 0
              go_wp2
              refine start_ (n := 10) (S := fun w' => w'.cell? ⟨gs, 0, none⟩ = some (.int .i64 ((steps (nds L k) : Nat) : Int))) (ds := [9]) #[false, false, false, false, false, false, false, false, false, false] (by kernel_rfl) rfl rfl q0 (fun hHeld => ?_)
              replace HST6 := Aside0.mk (blk_drew HST6.out)
              replace HCE6 := Aside0.mk (blk_drew HCE6.out)
              replace HN6 := Aside0.mk (Kd.N_drew HN6.out)
              replace HTF : Aside0 (Kd.F k44 wr.drew (fun b => wM.heap.size ≤ b) B (thrP x 4).length (thrP x 4)) := ⟨Kd.F_drew HTF.out⟩
              replace HBW6 := Aside0.mk (below_drew HBW6.out)
              replace HM6 : Aside0 (wM.heap.size ≤ wr.drew.heap.size) := ⟨HM6.out⟩
              clear q0
              generalize wr.drew = v6 at *
              refine pure_ (i := 0) (N := some 92) (v := ?_) (a' := ?_) #[true, false, false, false, false, false, false, false, false, false] rfl rfl (by kernel_rfl) (fun _ _ _ h => h) (Or.inl ⟨by rfl, ?_⟩) ?_ ?_
              rotate_left
              · intro w'
                go_simp
                with_reducible rfl
              rotate_left
              · simp only [Act.put, List.setIfInBounds_toArray, List.set_cons_zero, List.set_cons_succ, i64_w, i32_w]
                rfl
              refine pure_ (i := 1) (N := some 93) (v := ?_) (a' := ?_) #[true, true, false, false, false, false, false, false, false, false] rfl rfl (by kernel_rfl) (fun _ _ _ h => h) (Or.inl ⟨by rfl, ?_⟩) ?_ ?_
              rotate_left
              · intro w'
                go_simp
                with_reducible rfl
              rotate_left
              · simp only [Act.put, List.setIfInBounds_toArray, List.set_cons_zero, List.set_cons_succ, i64_w, i32_w]
                rfl
              refine take_ (i := 4) (N := some 96) (v := ?_) (a' := ?_) #[true, true, false, false, true, false, false, false, false, false] rfl rfl (by kernel_rfl) (fun _ _ _ h => h) (Or.inl ⟨by rfl, ?_⟩) hHeld ?_ ?_
              rotate_left
              · intro w' s0
                go_simp
                with_reducible rfl
              rotate_left
              · simp only [Act.put, List.setIfInBounds_toArray, List.set_cons_zero, List.set_cons_succ, i64_w, i32_w]
                rfl
              refine pure_ (i := 5) (N := some 97) (v := ?_) (a' := ?_) #[true, true, false, false, true, true, false, false, false, false] rfl rfl (by kernel_rfl) (fun _ _ _ h => h) (Or.inl ⟨by rfl, ?_⟩) ?_ ?_
              rotate_left
              · intro w'
                go_simp
                with_reducible rfl
              rotate_left
              · simp only [Act.put, List.setIfInBounds_toArray, List.set_cons_zero, List.set_cons_succ, i64_w, i32_w]
                rfl
              refine pure_ (i := 6) (N := some 98) (v := ?_) (a' := ?_) #[true, true, false, false, true, true, true, false, false, false] rfl rfl (by kernel_rfl) (fun _ _ _ h => h) (Or.inl ⟨by rfl, ?_⟩) ?_ ?_
              rotate_left
              · intro w'
                go_simp
                with_reducible rfl
              rotate_left
              · simp only [Act.put, List.setIfInBounds_toArray, List.set_cons_zero, List.set_cons_succ, i64_w, i32_w]
                rfl
              refine pure_ (i := 7) (N := some 99) (v := ?_) (a' := ?_) #[true, true, false, false, true, true, true, true, false, false] rfl rfl (by kernel_rfl) (fun _ _ _ h => h) (Or.inl ⟨by rfl, ?_⟩) ?_ ?_
              rotate_left
              · intro w'
                go_simp
                with_reducible rfl
              rotate_left
              · simp only [Act.put, List.setIfInBounds_toArray, List.set_cons_zero, List.set_cons_succ, i64_w, i32_w]
                rfl
              refine one_ (i := 2) (N := some 94) #[true, true, true, false, true, true, true, true, false, false] rfl rfl (by kernel_rfl) (by decide) (fun K hK => ?_)
              have hal : Below v6.heap.size v6 (v6.alloc (.cells #[.slice B (thrP x 4).length d] 42)) := (Below.refl _ _).alloc (Nat.le_refl _) _
              refine value_ (v := .slice (some ⟨v6.heap.size, 0, none⟩) 1 1) (w1 := v6.alloc (.cells #[.slice B (thrP x 4).length d] 42)) (by rfl) rfl (by go_simp) ?_
              refine hK.out _ _ (pw_cell_below hal hHeld) (fun hHeld => ?_)
              clear hK K
              refine norm_ (a' := ?_) ?_ ?_
              rotate_left
              · show Act.put _ (some 94) _ = _
                simp only [Act.put, List.setIfInBounds_toArray, List.set_cons_zero, List.set_cons_succ, i64_w, i32_w]
                rfl
              refine one_ (i := 3) (N := some 95) #[true, true, true, true, true, true, true, true, false, false] rfl rfl (by kernel_rfl) (by decide) (fun K hK => ?_)
              refine Kd.N_append_step (Kd.slice 44 k44) (w0 := v6) w.heap.size (by rfl) (.tmp 92) (.tmp 94) 22 42 (.slice none 0 0) 24 rfl Try.underlying22 info42 rfl (by decide) (by decide) u7 ((nds L k).map thr) (thr (nd x)) [.slice B (thrP x 4).length d] (fun b => b ≠ gs ∧ b ≠ gc) (fun b => wM.heap.size ≤ b) rfl rfl (Kd.FK_slice_mk HTD.out HTF.out) (fun b hb => ⟨⟨fun e => by have h1 := HGS.out; have h2 := HGM.out; omega, fun e => by have h1 := HGS.out; have h2 := HGM.out; omega⟩, fun e => by have h1 := HNL.out b e.symm; have h2 := HGM.out; omega⟩) (fun b hb => ⟨fun e => by have h1 := HGS.out; have h2 := HGM.out; have h3 := HM6.out; omega, fun e => by have h1 := HGS.out; have h2 := HGM.out; have h3 := HM6.out; omega⟩) (Kd.N_mono HN6.out (fun b hb => hb.1)) ((Below.refl _ _).mono (Nat.le_trans HWM.out HM6.out)) (Nat.le_trans HWM.out HM6.out) (by rw [List.length_map]; have h1 := nds_len (L := L) (k := k) hk; have h2 := HL8.out; omega) ?_
              intro v7 w7 hr hb hg hat
              have HST7 := Aside0.mk (blk_grown HST6.out hg (fun e => by have h1 := HNO.out gs e.symm; exact h1.1 rfl))
              have HCE7 := Aside0.mk (blk_grown HCE6.out hg (fun e => by have h1 := HNO.out gc e.symm; exact h1.2 rfl))
              have HN7 := Aside0.mk hr
              have HBW7 := Aside0.mk (HBW6.out.trans hb)
              clear hr hb hg hat
              refine hK.out _ _ (blk_cell HST7.out 0) (fun hHeld => ?_)
              clear hK K
              refine norm_ (a' := ?_) ?_ ?_
              rotate_left
              · show Act.put _ (some 95) _ = _
                simp only [Act.put, List.setIfInBounds_toArray, List.set_cons_zero, List.set_cons_succ, i64_w, i32_w]
                rfl
              refine pure_ (i := 8) (N := some 7) (v := ?_) (a' := ?_) #[true, true, true, true, true, true, true, true, true, false] rfl rfl (by kernel_rfl) (fun _ _ _ h => h) (Or.inl ⟨by rfl, ?_⟩) ?_ ?_
              rotate_left
              · intro w'
                go_simp
                with_reducible rfl
              rotate_left
              · simp only [Act.put, List.setIfInBounds_toArray, List.set_cons_zero, List.set_cons_succ, i64_w, i32_w]
                rfl
              refine last_ (i := 9) (N := none) #[true, true, true, true, true, true, true, true, true, true] rfl rfl (by kernel_rfl) (by decide) (fun K hK => ?_)
              clear hHeld
              have q0 := blk_cell HST7.out 0
              have f0 := blk_frozen HST7.out 0
              refine skip_ (w1 := ?_) (by rfl) rfl ?_ ?_
              rotate_left
              · go_simp
                rfl
              refine hK.out _ _ ?_
              clear hK K
              clear q0 f0
              refine done_ (by kernel_rfl) ?_
              have HST8 := Aside0.mk (blk_put HST7.out 0 (.int .i64 (wrap64 (((steps (nds L k) : Nat) : Int) + ((thrP x 4).length : Int)))) rfl)
              have HO8 : Aside0 (OutS w L gs gc (k + 1) v7 (w7.setCell ⟨gs, 0, none⟩ (.int .i64 (wrap64 (((steps (nds L k) : Nat) : Int) + ((thrP x 4).length : Int)))))) := ⟨by
                have e1 := nds_succ hx
                have e2 : steps (nds L (k + 1)) = steps (nds L k) + (thrP x 4).length := by
                  rw [e1, steps_add, ← thr_len]
                  rfl
                refine ⟨?_, ?_, ?_, below_put (k := 0) HBW7.out HSZ.out.1 _⟩
                · rw [e2, ← HEW2.out]
                  exact HST8.out
                · rw [e1]
                  exact blk_far HCE7.out (p := ⟨gs, 0, none⟩) (Ne.symm HNE.out) _
                · rw [e1, List.map_append]
                  exact Kd.N_far HN7.out (p := ⟨gs, 0, none⟩) (fun b hb => hb.1) _⟩
              clear HST8 HST7 HCE7 HN7 HBW7 HEW2 HST6 HCE6 HN6 HBW6 HTF HTD
              have hl8 := HL8.out
              go_wp2
              go_roundw
              case rel => exact ⟨k + 1, hlt, by go_num, HO8⟩
              case measure => simp [intOf]; omega

    · obtain rfl : k = L.length := by omega
      obtain ⟨o1, o2, o3, o4⟩ := HO.out
      have hok := nds_ok L L.length
      have hln := nds_len (L := L) (Nat.le_refl L.length)
      generalize nds L L.length = xs at *
      obtain ⟨A7, c7, e7, h7, hT⟩ := Kd.N_reads o3
      subst e7
      have h8 : xs.length ≤ 8 := by rw [hln]; exact HL8.out
      have hst := steps_bd hok
      have HR0' := rises0 hok h8
      have HRI' := fun l hl => rises hok h8 l hl
      have h18 : ∀ t : List S44, t ∈ xs.map thr → t.length ≤ 18 := fun t ht => by
        obtain ⟨y, hy, rfl⟩ := List.mem_map.1 ht
        rw [thr_len]
        have := (hok y hy).l4
        unfold len
        omega
      have h10 : (xs.map thr).length ≤ 10 := by rw [List.length_map]; omega
      generalize xs.map thr = lT at *
      obtain ⟨S0, hS0⟩ : ∃ S0, newS lT = S0 := ⟨_, rfl⟩
      have HLO : Aside0 (S0.lo = [-1, -1, -1, -1]) := ⟨by rw [← hS0]; rfl⟩
      have HXN : Aside0 (xNew lT = (S0, 0)) := ⟨by unfold xNew; rw [if_pos HR0', hS0]⟩
      rw [hS0] at HR0' HRI'
      obtain ⟨n, hn⟩ : ∃ n, steps xs = n := ⟨_, rfl⟩
      rw [hn] at HRI' hst o1
      have HN72 : Aside0 (n ≤ 72) := ⟨by omega⟩
      have HR0 := Aside0.mk HR0'
      have HRISE := Aside0.mk HRI'
      have HSTN := Aside0.mk hn
      have HSTP := Aside0.mk o1
      have HCEP := Aside0.mk o2
      have HBW := Aside0.mk o4
      have HT7 := Aside0.mk hT
      have HC7 := Aside0.mk h7
      have HT10 := Aside0.mk h10
      have HT18 := Aside0.mk h18
      clear o1 o2 o3 o4 hT h7 h10 h18 HR0' HRI' hn hst h8 hok hln hS0 HO HLC
      go_wp2_with (first
        | (go_at_call 15; refine (xNew_calls (fun _ => false) A7 c7 lT _ (CT_up HT7.out (hid_none _)) HC7.out (fun k hk => by cases hk) HT10.out HT18.out).mono ?_; rintro e v1 ⟨p7, rfl, hs, hb⟩; rw [HXN.out] at hs ⊢; dsimp only at hs ⊢; unfold sysA; have hal : Below v1.heap.size v1 (v1.alloc (.cells #[.slice p7.a0 S0.th.length p7.c0, .slice p7.a1 S0.at_.length p7.c1, .slice p7.a2 S0.su.length p7.c2, .slice p7.a3 S0.lo.length p7.c3, .slice p7.a4 S0.ce.length p7.c4, .slice p7.a5 S0.ch.length p7.c5] 26)) := (Below.refl _ _).alloc (Nat.le_refl _) _; have HA := Aside0.mk (blk_new v1 (.cells #[.slice p7.a0 S0.th.length p7.c0, .slice p7.a1 S0.at_.length p7.c1, .slice p7.a2 S0.su.length p7.c2, .slice p7.a3 S0.lo.length p7.c3, .slice p7.a4 S0.ce.length p7.c4, .slice p7.a5 S0.ch.length p7.c5] 26)); have HS7 := Aside0.mk ((hs.up (hid_up _ _)).below hal); replace HSTP := Aside0.mk (blk_below (blk_below HSTP.out hb) hal); replace HCEP := Aside0.mk (blk_below (blk_below HCEP.out hb) hal); replace HBW := Aside0.mk (below_then (below_then HBW.out HBW.out.size hb) (below_then HBW.out HBW.out.size hb).size hal); clear hb hs hal)
        | (go_at_call 11; refine (alive_calls _).mono ?_; rintro e v2 ⟨rfl, hb⟩; replace HA := Aside0.mk (blk_below HA.out hb); replace HS7 := Aside0.mk (HS7.out.below hb); replace HSTP := Aside0.mk (blk_below HSTP.out hb); replace HCEP := Aside0.mk (blk_below HCEP.out hb); replace HBW := Aside0.mk (below_then HBW.out HBW.out.size hb); clear hb))
      generalize v1.heap.size = gA at *
      obtain ⟨q0, q1, q2, q3, q4, q5⟩ := six_cells HA.out
      refine start_ (n := 13) (S := fun w' => w'.cell? ⟨gA, 0, none⟩ = some (.slice p7.a0 S0.th.length p7.c0) ∧ w'.cell? ⟨gA, 1, none⟩ = some (.slice p7.a1 S0.at_.length p7.c1) ∧ w'.cell? ⟨gA, 2, none⟩ = some (.slice p7.a2 S0.su.length p7.c2) ∧ w'.cell? ⟨gA, 3, none⟩ = some (.slice p7.a3 S0.lo.length p7.c3) ∧ w'.cell? ⟨gA, 4, none⟩ = some (.slice p7.a4 S0.ce.length p7.c4) ∧ w'.cell? ⟨gA, 5, none⟩ = some (.slice p7.a5 S0.ch.length p7.c5)) (ds := [10]) #[false, false, false, false, false, false, false, false, false, false, false, false, false] (by kernel_rfl) rfl rfl ⟨q0, q1, q2, q3, q4, q5⟩ (fun hHeld => ?_)
      have hdr := below_drew (Below.refl v2.heap.size v2)
      replace HA := Aside0.mk (blk_below HA.out hdr); replace HS7 := Aside0.mk (HS7.out.below hdr); replace HSTP := Aside0.mk (blk_below HSTP.out hdr); replace HCEP := Aside0.mk (blk_below HCEP.out hdr); replace HBW := Aside0.mk (below_then HBW.out HBW.out.size hdr)
      clear q0 q1 q2 q3 q4 q5 hdr
      generalize v2.drew = v3 at *
      have HFULL : Aside0 (∀ W, Below v3.heap.size v3 W → Calls Try.prog 16 (#[.slice A1 l1.length c1] ++ #[.pointer (some ⟨gs, 0, none⟩)]) W (fun e w' => ∃ B d L, L.length = n ∧ e = .returned (.slice B n d) ∧ n ≤ d ∧ CI w' B L ∧ Below W.heap.size W w')) := ⟨fun W h => full_cap A1 c1 l1 gs n W (Kd.C_below H1.out (below_then HBW.out HBW.out.size h)) HC1.out (blk_below HSTP.out h) (by have := HN72.out; omega)⟩
      have HRUN : Aside0 (∀ (P : Nat → Bool) (W : World) (B1 : Option Addr) (d1 : Nat) (L1 : List Int), Below v3.heap.size v3 W → (∀ k, P k = true → v3.heap.size ≤ k ∧ k < W.heap.size) → CI W B1 L1 → L1.length = n → Calls Try.prog 9 #[.agg #[.slice p7.a0 S0.th.length p7.c0, .slice p7.a1 S0.at_.length p7.c1, .slice p7.a2 S0.su.length p7.c2, .slice p7.a3 S0.lo.length p7.c3, .slice p7.a4 S0.ce.length p7.c4, .slice p7.a5 S0.ch.length p7.c5], .slice B1 n d1] W (RunT P xs n W)) := ⟨fun P W B1 d1 L1 h hP hci hl => run_rose HR0.out HRISE.out HSTN.out (by have := HN72.out; omega) (HS7.out.up (up_new h (fun k hk => (hP k hk).1))) (fun k hk => (hP k hk).2) hci hl⟩
      refine pure_ (i := 1) (N := some 115) (v := ?_) (a' := ?_) #[false, true, false, false, false, false, false, false, false, false, false, false, false] rfl rfl (by kernel_rfl) (fun _ _ _ h => h) (Or.inl ⟨by rfl, ?_⟩) ?_ ?_
      rotate_left
      · intro w'
        go_simp
        with_reducible rfl
      rotate_left
      · simp only [Act.put, List.setIfInBounds_toArray, List.set_cons_zero, List.set_cons_succ, i64_w, i32_w]
        rfl
      refine pure_ (i := 2) (N := some 116) (v := ?_) (a' := ?_) #[false, true, true, false, false, false, false, false, false, false, false, false, false] rfl rfl (by kernel_rfl) (fun _ _ _ h => h) (Or.inl ⟨by rfl, ?_⟩) ?_ ?_
      rotate_left
      · intro w'
        go_simp
        with_reducible rfl
      rotate_left
      · simp only [Act.put, List.setIfInBounds_toArray, List.set_cons_zero, List.set_cons_succ, i64_w, i32_w]
        rfl
      refine take_ (i := 0) (N := some 114) (v := ?_) (a' := ?_) #[true, true, true, false, false, false, false, false, false, false, false, false, false] rfl rfl (by kernel_rfl) (fun _ _ _ h => h) (Or.inl ⟨by rfl, ?_⟩) hHeld ?_ ?_
      rotate_left
      · rintro w' ⟨s0, s1, s2, s3, s4, s5⟩
        go_simp
        with_reducible rfl
      rotate_left
      · simp only [Act.put, List.setIfInBounds_toArray, List.set_cons_zero, List.set_cons_succ, i64_w, i32_w]
        rfl
      refine join_ (σ := JQ) 3 #[true, true, true, true, true, true, true, true, true, true, false, false, false] (fun t : JQ => [(117, .slice t.B1 n t.d1), (118, (.tuple #[.agg (sysA t.r.1 t.q), .slice t.B n t.d, .int .i64 0])), (19, .pointer (some ⟨t.g, 0, none⟩)), (113, (.tuple #[.agg (sysA t.r.1 t.q), .slice t.B n t.d, .int .i64 0])), (119, .agg (sysA t.r.1 t.q)), (120, .slice t.B n t.d), (121, .int .i64 0)]) (fun t w' => JG v3 xs w' t) ?_ ?_
      rotate_left
      · intro hc
        refine two_ (i := 3) (j := 9) (Ni := some 117) (Nj := some 19) #[true, true, true, true, false, false, false, false, false, false, false, false, false] #[true, true, true, false, false, false, false, false, false, true, false, false, false] rfl rfl rfl rfl (by kernel_rfl) (by decide) (by decide) (fun K hK => ?_) (fun K hK => ?_)
        · skip
          refine goesC_ Try.func16 (by kernel_rfl) rfl #[.slice A1 l1.length c1] (by rfl) rfl rfl rfl (by (try simp only [List.map_toArray, List.map_cons, List.map_nil]); first | done | rfl) ?_
          refine (HFULL.out v3 (Below.refl v3.heap.size v3)).mono ?_
          rintro e u1 ⟨B1, d1, L1, hL1, rfl, hd1, hci, hb⟩
          refine ⟨_, rfl, ?_⟩
          refine hK.out _ _ ⟨pw_cell_below hb hHeld.1, pw_cell_below hb hHeld.2.1, pw_cell_below hb hHeld.2.2.1, pw_cell_below hb hHeld.2.2.2.1, pw_cell_below hb hHeld.2.2.2.2.1, pw_cell_below hb hHeld.2.2.2.2.2⟩ (fun hHeld => ?_)
          clear hK K
          refine norm_ (a' := ?_) ?_ ?_
          rotate_left
          · show Act.put _ (some 117) _ = _
            simp only [Act.put, List.setIfInBounds_toArray, List.set_cons_zero, List.set_cons_succ, i64_w, i32_w]
            rfl
          have hbv := (Below.refl v3.heap.size v3)
          have hu1 := below_then hbv hbv.size hb
          refine two_ (i := 4) (j := 9) (Ni := some 118) (Nj := some 19) #[true, true, true, true, true, false, false, false, false, false, false, false, false] #[true, true, true, true, false, false, false, false, false, true, false, false, false] rfl rfl rfl rfl (by kernel_rfl) (by decide) (by decide) (fun K hK => ?_) (fun K hK => ?_)
          · skip
            refine goes_ Try.func9 (by kernel_rfl) rfl #[.agg #[.slice p7.a0 S0.th.length p7.c0, .slice p7.a1 S0.at_.length p7.c1, .slice p7.a2 S0.su.length p7.c2, .slice p7.a3 S0.lo.length p7.c3, .slice p7.a4 S0.ce.length p7.c4, .slice p7.a5 S0.ch.length p7.c5], .slice B1 n d1] (by rfl) rfl rfl (by (try simp only [List.map_toArray, List.map_cons, List.map_nil]); first | done | rfl) ?_
            refine (HRUN.out (fun _ => false) u1 B1 d1 L1 hu1 (fun k hk => by cases hk) hci hL1).mono ?_
            rintro e u2 ⟨r, q, B, d, hro, rfl, hs, hb⟩
            refine ⟨_, rfl, ?_⟩
            refine hK.out _ _ ⟨pw_cell_below hb hHeld.1, pw_cell_below hb hHeld.2.1, pw_cell_below hb hHeld.2.2.1, pw_cell_below hb hHeld.2.2.2.1, pw_cell_below hb hHeld.2.2.2.2.1, pw_cell_below hb hHeld.2.2.2.2.2⟩ (fun hHeld => ?_)
            clear hK K
            refine norm_ (a' := ?_) ?_ ?_
            rotate_left
            · show Act.put _ (some 118) _ = _
              simp only [Act.put, List.setIfInBounds_toArray, List.set_cons_zero, List.set_cons_succ, i64_w, i32_w]
              rfl
            have hu2 := below_then hu1 hu1.size hb
            refine pure_ (i := 5) (N := some 113) (v := ?_) (a' := ?_) #[true, true, true, true, true, true, false, false, false, false, false, false, false] rfl rfl (by kernel_rfl) (fun _ _ _ h => h) (Or.inl ⟨by rfl, ?_⟩) ?_ ?_
            rotate_left
            · intro w'
              go_simp
              with_reducible rfl
            rotate_left
            · simp only [Act.put, List.setIfInBounds_toArray, List.set_cons_zero, List.set_cons_succ, i64_w, i32_w]
              rfl
            refine pure_ (i := 6) (N := some 119) (v := ?_) (a' := ?_) #[true, true, true, true, true, true, true, false, false, false, false, false, false] rfl rfl (by kernel_rfl) (fun _ _ _ h => h) (Or.inl ⟨by rfl, ?_⟩) ?_ ?_
            rotate_left
            · intro w'
              go_simp
              with_reducible rfl
            rotate_left
            · simp only [Act.put, List.setIfInBounds_toArray, List.set_cons_zero, List.set_cons_succ, i64_w, i32_w]
              rfl
            refine pure_ (i := 7) (N := some 120) (v := ?_) (a' := ?_) #[true, true, true, true, true, true, true, true, false, false, false, false, false] rfl rfl (by kernel_rfl) (fun _ _ _ h => h) (Or.inl ⟨by rfl, ?_⟩) ?_ ?_
            rotate_left
            · intro w'
              go_simp
              with_reducible rfl
            rotate_left
            · simp only [Act.put, List.setIfInBounds_toArray, List.set_cons_zero, List.set_cons_succ, i64_w, i32_w]
              rfl
            refine pure_ (i := 8) (N := some 121) (v := ?_) (a' := ?_) #[true, true, true, true, true, true, true, true, true, false, false, false, false] rfl rfl (by kernel_rfl) (fun _ _ _ h => h) (Or.inl ⟨by rfl, ?_⟩) ?_ ?_
            rotate_left
            · intro w'
              go_simp
              with_reducible rfl
            rotate_left
            · simp only [Act.put, List.setIfInBounds_toArray, List.set_cons_zero, List.set_cons_succ, i64_w, i32_w]
              rfl
            refine one_ (i := 9) (N := some 19) #[true, true, true, true, true, true, true, true, true, true, false, false, false] rfl rfl (by kernel_rfl) (by decide) (fun K hK => ?_)
            refine value_ (v := .pointer (some ⟨u2.heap.size, 0, none⟩)) (w1 := u2.alloc (.cells z6 26)) (by rfl) rfl (by go_simp) ?_
            replace hb : Below u2.heap.size u2 (u2.alloc (.cells z6 26)) := (Below.refl _ _).alloc (Nat.le_refl _) _
            refine hK.out _ _ ⟨pw_cell_below hb hHeld.1, pw_cell_below hb hHeld.2.1, pw_cell_below hb hHeld.2.2.1, pw_cell_below hb hHeld.2.2.2.1, pw_cell_below hb hHeld.2.2.2.2.1, pw_cell_below hb hHeld.2.2.2.2.2⟩ (fun hHeld => norm_ ?_ (hc ⟨r, q, B, d, u2.heap.size, B1, d1⟩ _ (JG.callFirst hro hs hu2)))
            simp only [putAll, Act.put, List.setIfInBounds_toArray, List.set_cons_zero, List.set_cons_succ]
          · skip
            refine value_ (v := .pointer (some ⟨u1.heap.size, 0, none⟩)) (w1 := u1.alloc (.cells z6 26)) (by rfl) rfl (by go_simp) ?_
            replace hb : Below u1.heap.size u1 (u1.alloc (.cells z6 26)) := (Below.refl _ _).alloc (Nat.le_refl _) _
            refine hK.out _ _ ⟨pw_cell_below hb hHeld.1, pw_cell_below hb hHeld.2.1, pw_cell_below hb hHeld.2.2.1, pw_cell_below hb hHeld.2.2.2.1, pw_cell_below hb hHeld.2.2.2.2.1, pw_cell_below hb hHeld.2.2.2.2.2⟩ (fun hHeld => ?_)
            clear hK K
            refine norm_ (a' := ?_) ?_ ?_
            rotate_left
            · show Act.put _ (some 19) _ = _
              simp only [Act.put, List.setIfInBounds_toArray, List.set_cons_zero, List.set_cons_succ, i64_w, i32_w]
              rfl
            have hua := below_then hu1 hu1.size hb
            replace hci := Kd.C_below hci hb
            refine one_ (i := 4) (N := some 118) #[true, true, true, true, true, false, false, false, false, true, false, false, false] rfl rfl (by kernel_rfl) (by decide) (fun K hK => ?_)
            refine goes_ Try.func9 (by kernel_rfl) rfl #[.agg #[.slice p7.a0 S0.th.length p7.c0, .slice p7.a1 S0.at_.length p7.c1, .slice p7.a2 S0.su.length p7.c2, .slice p7.a3 S0.lo.length p7.c3, .slice p7.a4 S0.ce.length p7.c4, .slice p7.a5 S0.ch.length p7.c5], .slice B1 n d1] (by rfl) rfl rfl (by (try simp only [List.map_toArray, List.map_cons, List.map_nil]); first | done | rfl) ?_
            refine (HRUN.out (fun k => k == u1.heap.size) (u1.alloc (.cells z6 26)) B1 d1 L1 hua (fun k hk => by have h1 := beq_iff_eq.1 hk; subst h1; rw [alloc_size]; exact ⟨hu1.size, Nat.lt_succ_self _⟩) hci hL1).mono ?_
            rintro e u2 ⟨r, q, B, d, hro, rfl, hs, hb⟩
            refine ⟨_, rfl, ?_⟩
            refine hK.out _ _ ⟨pw_cell_below hb hHeld.1, pw_cell_below hb hHeld.2.1, pw_cell_below hb hHeld.2.2.1, pw_cell_below hb hHeld.2.2.2.1, pw_cell_below hb hHeld.2.2.2.2.1, pw_cell_below hb hHeld.2.2.2.2.2⟩ (fun hHeld => ?_)
            clear hK K
            refine norm_ (a' := ?_) ?_ ?_
            rotate_left
            · show Act.put _ (some 118) _ = _
              simp only [Act.put, List.setIfInBounds_toArray, List.set_cons_zero, List.set_cons_succ, i64_w, i32_w]
              rfl
            refine pure_ (i := 5) (N := some 113) (v := ?_) (a' := ?_) #[true, true, true, true, true, true, false, false, false, true, false, false, false] rfl rfl (by kernel_rfl) (fun _ _ _ h => h) (Or.inl ⟨by rfl, ?_⟩) ?_ ?_
            rotate_left
            · intro w'
              go_simp
              with_reducible rfl
            rotate_left
            · simp only [Act.put, List.setIfInBounds_toArray, List.set_cons_zero, List.set_cons_succ, i64_w, i32_w]
              rfl
            refine pure_ (i := 6) (N := some 119) (v := ?_) (a' := ?_) #[true, true, true, true, true, true, true, false, false, true, false, false, false] rfl rfl (by kernel_rfl) (fun _ _ _ h => h) (Or.inl ⟨by rfl, ?_⟩) ?_ ?_
            rotate_left
            · intro w'
              go_simp
              with_reducible rfl
            rotate_left
            · simp only [Act.put, List.setIfInBounds_toArray, List.set_cons_zero, List.set_cons_succ, i64_w, i32_w]
              rfl
            refine pure_ (i := 7) (N := some 120) (v := ?_) (a' := ?_) #[true, true, true, true, true, true, true, true, false, true, false, false, false] rfl rfl (by kernel_rfl) (fun _ _ _ h => h) (Or.inl ⟨by rfl, ?_⟩) ?_ ?_
            rotate_left
            · intro w'
              go_simp
              with_reducible rfl
            rotate_left
            · simp only [Act.put, List.setIfInBounds_toArray, List.set_cons_zero, List.set_cons_succ, i64_w, i32_w]
              rfl
            refine pure_ (i := 8) (N := some 121) (v := ?_) (a' := ?_) #[true, true, true, true, true, true, true, true, true, true, false, false, false] rfl rfl (by kernel_rfl) (fun _ _ _ h => h) (Or.inl ⟨by rfl, ?_⟩) ?_ ?_
            rotate_left
            · intro w'
              go_simp
              with_reducible rfl
            rotate_left
            · simp only [Act.put, List.setIfInBounds_toArray, List.set_cons_zero, List.set_cons_succ, i64_w, i32_w]
              rfl
            refine norm_ ?_ (hc ⟨r, q, B, d, u1.heap.size, B1, d1⟩ _ (JG.allocFirst hro hu1 hs hb))
            simp only [putAll, Act.put, List.setIfInBounds_toArray, List.set_cons_zero, List.set_cons_succ]
        · skip
          refine value_ (v := .pointer (some ⟨v3.heap.size, 0, none⟩)) (w1 := v3.alloc (.cells z6 26)) (by rfl) rfl (by go_simp) ?_
          have hb : Below v3.heap.size v3 (v3.alloc (.cells z6 26)) := (Below.refl _ _).alloc (Nat.le_refl _) _
          refine hK.out _ _ ⟨pw_cell_below hb hHeld.1, pw_cell_below hb hHeld.2.1, pw_cell_below hb hHeld.2.2.1, pw_cell_below hb hHeld.2.2.2.1, pw_cell_below hb hHeld.2.2.2.2.1, pw_cell_below hb hHeld.2.2.2.2.2⟩ (fun hHeld => ?_)
          clear hK K
          refine norm_ (a' := ?_) ?_ ?_
          rotate_left
          · show Act.put _ (some 19) _ = _
            simp only [Act.put, List.setIfInBounds_toArray, List.set_cons_zero, List.set_cons_succ, i64_w, i32_w]
            rfl
          have hva := hb
          refine one_ (i := 3) (N := some 117) #[true, true, true, true, false, false, false, false, false, true, false, false, false] rfl rfl (by kernel_rfl) (by decide) (fun K hK => ?_)
          refine goesC_ Try.func16 (by kernel_rfl) rfl #[.slice A1 l1.length c1] (by rfl) rfl rfl rfl (by (try simp only [List.map_toArray, List.map_cons, List.map_nil]); first | done | rfl) ?_
          refine (HFULL.out (v3.alloc (.cells z6 26)) hva).mono ?_
          rintro e u1 ⟨B1, d1, L1, hL1, rfl, hd1, hci, hb⟩
          refine ⟨_, rfl, ?_⟩
          refine hK.out _ _ ⟨pw_cell_below hb hHeld.1, pw_cell_below hb hHeld.2.1, pw_cell_below hb hHeld.2.2.1, pw_cell_below hb hHeld.2.2.2.1, pw_cell_below hb hHeld.2.2.2.2.1, pw_cell_below hb hHeld.2.2.2.2.2⟩ (fun hHeld => ?_)
          clear hK K
          refine norm_ (a' := ?_) ?_ ?_
          rotate_left
          · show Act.put _ (some 117) _ = _
            simp only [Act.put, List.setIfInBounds_toArray, List.set_cons_zero, List.set_cons_succ, i64_w, i32_w]
            rfl
          have hbv := hva
          have hu1 := below_then hbv hbv.size hb
          have hub := hb
          refine one_ (i := 4) (N := some 118) #[true, true, true, true, true, false, false, false, false, true, false, false, false] rfl rfl (by kernel_rfl) (by decide) (fun K hK => ?_)
          refine goes_ Try.func9 (by kernel_rfl) rfl #[.agg #[.slice p7.a0 S0.th.length p7.c0, .slice p7.a1 S0.at_.length p7.c1, .slice p7.a2 S0.su.length p7.c2, .slice p7.a3 S0.lo.length p7.c3, .slice p7.a4 S0.ce.length p7.c4, .slice p7.a5 S0.ch.length p7.c5], .slice B1 n d1] (by rfl) rfl rfl (by (try simp only [List.map_toArray, List.map_cons, List.map_nil]); first | done | rfl) ?_
          refine (HRUN.out (fun k => k == v3.heap.size) u1 B1 d1 L1 hu1 (fun k hk => by have h1 := beq_iff_eq.1 hk; subst h1; have h2 := hub.size; rw [alloc_size] at h2; exact ⟨Nat.le_refl _, by omega⟩) hci hL1).mono ?_
          rintro e u2 ⟨r, q, B, d, hro, rfl, hs, hb⟩
          refine ⟨_, rfl, ?_⟩
          refine hK.out _ _ ⟨pw_cell_below hb hHeld.1, pw_cell_below hb hHeld.2.1, pw_cell_below hb hHeld.2.2.1, pw_cell_below hb hHeld.2.2.2.1, pw_cell_below hb hHeld.2.2.2.2.1, pw_cell_below hb hHeld.2.2.2.2.2⟩ (fun hHeld => ?_)
          clear hK K
          refine norm_ (a' := ?_) ?_ ?_
          rotate_left
          · show Act.put _ (some 118) _ = _
            simp only [Act.put, List.setIfInBounds_toArray, List.set_cons_zero, List.set_cons_succ, i64_w, i32_w]
            rfl
          refine pure_ (i := 5) (N := some 113) (v := ?_) (a' := ?_) #[true, true, true, true, true, true, false, false, false, true, false, false, false] rfl rfl (by kernel_rfl) (fun _ _ _ h => h) (Or.inl ⟨by rfl, ?_⟩) ?_ ?_
          rotate_left
          · intro w'
            go_simp
            with_reducible rfl
          rotate_left
          · simp only [Act.put, List.setIfInBounds_toArray, List.set_cons_zero, List.set_cons_succ, i64_w, i32_w]
            rfl
          refine pure_ (i := 6) (N := some 119) (v := ?_) (a' := ?_) #[true, true, true, true, true, true, true, false, false, true, false, false, false] rfl rfl (by kernel_rfl) (fun _ _ _ h => h) (Or.inl ⟨by rfl, ?_⟩) ?_ ?_
          rotate_left
          · intro w'
            go_simp
            with_reducible rfl
          rotate_left
          · simp only [Act.put, List.setIfInBounds_toArray, List.set_cons_zero, List.set_cons_succ, i64_w, i32_w]
            rfl
          refine pure_ (i := 7) (N := some 120) (v := ?_) (a' := ?_) #[true, true, true, true, true, true, true, true, false, true, false, false, false] rfl rfl (by kernel_rfl) (fun _ _ _ h => h) (Or.inl ⟨by rfl, ?_⟩) ?_ ?_
          rotate_left
          · intro w'
            go_simp
            with_reducible rfl
          rotate_left
          · simp only [Act.put, List.setIfInBounds_toArray, List.set_cons_zero, List.set_cons_succ, i64_w, i32_w]
            rfl
          refine pure_ (i := 8) (N := some 121) (v := ?_) (a' := ?_) #[true, true, true, true, true, true, true, true, true, true, false, false, false] rfl rfl (by kernel_rfl) (fun _ _ _ h => h) (Or.inl ⟨by rfl, ?_⟩) ?_ ?_
          rotate_left
          · intro w'
            go_simp
            with_reducible rfl
          rotate_left
          · simp only [Act.put, List.setIfInBounds_toArray, List.set_cons_zero, List.set_cons_succ, i64_w, i32_w]
            rfl
          refine norm_ ?_ (hc ⟨r, q, B, d, v3.heap.size, B1, d1⟩ _ (JG.allocFirst hro (Below.refl _ _) hs (below_then hub hub.size hb)))
          simp only [putAll, Act.put, List.setIfInBounds_toArray, List.set_cons_zero, List.set_cons_succ]
      rintro ⟨r8, q8, B8, d8, g8, B1, d1⟩ u8 hF
      refine norm_ (a' := ?_) ?_ ?_
      rotate_left
      · simp only [putAll, Act.put, List.setIfInBounds_toArray, List.set_cons_zero, List.set_cons_succ, i64_w, i32_w]
        rfl
      have HF := Aside0.mk hF
      clear hF hHeld
      unfold sysA
      refine last_ (i := 10) (N := none) #[true, true, true, true, true, true, true, true, true, true, true, false, false] rfl rfl (by kernel_rfl) (by decide) (fun K hK => ?_)
      obtain ⟨q0, q1, q2, q3, q4, q5⟩ := six_cells (show u8.heap[g8]? = some (.cells z6 26 (0, 0)) from HF.out.blk)
      obtain ⟨x0, x1, x2, x3, x4, x5⟩ := six_frozen (show u8.heap[g8]? = some (.cells z6 26 (0, 0)) from HF.out.blk)
      refine skip_ (w1 := ?_) (by rfl) rfl ?_ ?_
      rotate_left
      · go_simp
        rfl
      refine hK.out _ _ ?_
      clear hK K
      clear q0 q1 q2 q3 q4 q5 x0 x1 x2 x3 x4 x5
      have HJ : Aside0 (JH v3 xs ((((((u8.setCell ⟨g8, 0, none⟩ (.slice q8.a0 r8.1.th.length q8.c0)).setCell ⟨g8, 1, none⟩ (.slice q8.a1 r8.1.at_.length q8.c1)).setCell ⟨g8, 2, none⟩ (.slice q8.a2 r8.1.su.length q8.c2)).setCell ⟨g8, 3, none⟩ (.slice q8.a3 r8.1.lo.length q8.c3)).setCell ⟨g8, 4, none⟩ (.slice q8.a4 r8.1.ce.length q8.c4)).setCell ⟨g8, 5, none⟩ (.slice q8.a5 r8.1.ch.length q8.c5)) r8 q8 g8) := ⟨HF.out.store⟩
      clear HF
      generalize ((((((u8.setCell ⟨g8, 0, none⟩ (.slice q8.a0 r8.1.th.length q8.c0)).setCell ⟨g8, 1, none⟩ (.slice q8.a1 r8.1.at_.length q8.c1)).setCell ⟨g8, 2, none⟩ (.slice q8.a2 r8.1.su.length q8.c2)).setCell ⟨g8, 3, none⟩ (.slice q8.a3 r8.1.lo.length q8.c3)).setCell ⟨g8, 4, none⟩ (.slice q8.a4 r8.1.ce.length q8.c4)).setCell ⟨g8, 5, none⟩ (.slice q8.a5 r8.1.ch.length q8.c5)) = w8 at *
      refine pure_ (i := 11) (N := some 20) (v := ?_) (a' := ?_) #[true, true, true, true, true, true, true, true, true, true, true, true, false] rfl rfl (by kernel_rfl) (fun _ _ _ h => h) (Or.inl ⟨by rfl, ?_⟩) ?_ ?_
      rotate_left
      · intro w'
        go_simp
        with_reducible rfl
      rotate_left
      · simp only [Act.put, List.setIfInBounds_toArray, List.set_cons_zero, List.set_cons_succ, i64_w, i32_w]
        rfl
      refine pure_ (i := 12) (N := some 21) (v := ?_) (a' := ?_) #[true, true, true, true, true, true, true, true, true, true, true, true, true] rfl rfl (by kernel_rfl) (fun _ _ _ h => h) (Or.inl ⟨by rfl, ?_⟩) ?_ ?_
      rotate_left
      · intro w'
        go_simp
        with_reducible rfl
      rotate_left
      · simp only [Act.put, List.setIfInBounds_toArray, List.set_cons_zero, List.set_cons_succ, i64_w, i32_w]
        rfl
      refine done_ (by kernel_rfl) ?_
      have HJ8 := HJ
      clear HJ HFULL HRUN
      have hb8 := HJ8.out.bel
      replace HA := Aside0.mk (blk_below HA.out hb8)
      replace HS7 := Aside0.mk (HS7.out.below hb8)
      replace HSTP := Aside0.mk (blk_below HSTP.out hb8)
      replace HCEP := Aside0.mk (blk_below HCEP.out hb8)
      replace HBW := Aside0.mk (below_then HBW.out HBW.out.size hb8)
      clear hb8
      obtain ⟨q0, q1, q2, q3, q4, q5⟩ := six_cells HA.out
      go_wp2
      refine start_ (n := 13) (S := fun w' => w'.cell? ⟨gA, 0, none⟩ = some (.slice p7.a0 S0.th.length p7.c0) ∧ w'.cell? ⟨gA, 1, none⟩ = some (.slice p7.a1 S0.at_.length p7.c1) ∧ w'.cell? ⟨gA, 2, none⟩ = some (.slice p7.a2 S0.su.length p7.c2) ∧ w'.cell? ⟨gA, 3, none⟩ = some (.slice p7.a3 S0.lo.length p7.c3) ∧ w'.cell? ⟨gA, 4, none⟩ = some (.slice p7.a4 S0.ce.length p7.c4) ∧ w'.cell? ⟨gA, 5, none⟩ = some (.slice p7.a5 S0.ch.length p7.c5)) (ds := [10]) #[false, false, false, false, false, false, false, false, false, false, false, false, false] (by kernel_rfl) rfl rfl ⟨q0, q1, q2, q3, q4, q5⟩ (fun hHeld => ?_)
      have hd8 := below_drew (Below.refl w8.heap.size w8)
      replace HJ8 := Aside0.mk (HJ8.out.below hd8)
      clear hd8
      have hdr := below_drew (Below.refl w8.heap.size w8)
      replace HA := Aside0.mk (blk_below HA.out hdr); replace HS7 := Aside0.mk (HS7.out.below hdr); replace HSTP := Aside0.mk (blk_below HSTP.out hdr); replace HCEP := Aside0.mk (blk_below HCEP.out hdr); replace HBW := Aside0.mk (below_then HBW.out HBW.out.size hdr)
      clear q0 q1 q2 q3 q4 q5 hdr
      generalize w8.drew = v4 at *
      have HFULL : Aside0 (∀ W, Below v4.heap.size v4 W → Calls Try.prog 16 (#[.slice A2 l2.length c2] ++ #[.pointer (some ⟨gs, 0, none⟩)]) W (fun e w' => ∃ B d L, L.length = n ∧ e = .returned (.slice B n d) ∧ n ≤ d ∧ CI w' B L ∧ Below W.heap.size W w')) := ⟨fun W h => full_cap A2 c2 l2 gs n W (Kd.C_below H2.out (below_then HBW.out HBW.out.size h)) HC2.out (blk_below HSTP.out h) (by have := HN72.out; omega)⟩
      have HRUN : Aside0 (∀ (P : Nat → Bool) (W : World) (B1 : Option Addr) (d1 : Nat) (L1 : List Int), Below v4.heap.size v4 W → (∀ k, P k = true → v4.heap.size ≤ k ∧ k < W.heap.size) → CI W B1 L1 → L1.length = n → Calls Try.prog 9 #[.agg #[.slice p7.a0 S0.th.length p7.c0, .slice p7.a1 S0.at_.length p7.c1, .slice p7.a2 S0.su.length p7.c2, .slice p7.a3 S0.lo.length p7.c3, .slice p7.a4 S0.ce.length p7.c4, .slice p7.a5 S0.ch.length p7.c5], .slice B1 n d1] W (RunT P xs n W)) := ⟨fun P W B1 d1 L1 h hP hci hl => run_rose HR0.out HRISE.out HSTN.out (by have := HN72.out; omega) (HS7.out.up (up_new h (fun k hk => (hP k hk).1))) (fun k hk => (hP k hk).2) hci hl⟩
      refine pure_ (i := 1) (N := some 124) (v := ?_) (a' := ?_) #[false, true, false, false, false, false, false, false, false, false, false, false, false] rfl rfl (by kernel_rfl) (fun _ _ _ h => h) (Or.inl ⟨by rfl, ?_⟩) ?_ ?_
      rotate_left
      · intro w'
        go_simp
        with_reducible rfl
      rotate_left
      · simp only [Act.put, List.setIfInBounds_toArray, List.set_cons_zero, List.set_cons_succ, i64_w, i32_w]
        rfl
      refine pure_ (i := 2) (N := some 125) (v := ?_) (a' := ?_) #[false, true, true, false, false, false, false, false, false, false, false, false, false] rfl rfl (by kernel_rfl) (fun _ _ _ h => h) (Or.inl ⟨by rfl, ?_⟩) ?_ ?_
      rotate_left
      · intro w'
        go_simp
        with_reducible rfl
      rotate_left
      · simp only [Act.put, List.setIfInBounds_toArray, List.set_cons_zero, List.set_cons_succ, i64_w, i32_w]
        rfl
      refine take_ (i := 0) (N := some 123) (v := ?_) (a' := ?_) #[true, true, true, false, false, false, false, false, false, false, false, false, false] rfl rfl (by kernel_rfl) (fun _ _ _ h => h) (Or.inl ⟨by rfl, ?_⟩) hHeld ?_ ?_
      rotate_left
      · rintro w' ⟨s0, s1, s2, s3, s4, s5⟩
        go_simp
        with_reducible rfl
      rotate_left
      · simp only [Act.put, List.setIfInBounds_toArray, List.set_cons_zero, List.set_cons_succ, i64_w, i32_w]
        rfl
      refine join_ (σ := JQ) 3 #[true, true, true, true, true, true, true, true, true, true, false, false, false] (fun t : JQ => [(126, .slice t.B1 n t.d1), (127, (.tuple #[.agg (sysA t.r.1 t.q), .slice t.B n t.d, .int .i64 0])), (22, .pointer (some ⟨t.g, 0, none⟩)), (122, (.tuple #[.agg (sysA t.r.1 t.q), .slice t.B n t.d, .int .i64 0])), (128, .agg (sysA t.r.1 t.q)), (129, .slice t.B n t.d), (130, .int .i64 0)]) (fun t w' => JG v4 xs w' t) ?_ ?_
      rotate_left
      · intro hc
        refine two_ (i := 3) (j := 9) (Ni := some 126) (Nj := some 22) #[true, true, true, true, false, false, false, false, false, false, false, false, false] #[true, true, true, false, false, false, false, false, false, true, false, false, false] rfl rfl rfl rfl (by kernel_rfl) (by decide) (by decide) (fun K hK => ?_) (fun K hK => ?_)
        · skip
          refine goesC_ Try.func16 (by kernel_rfl) rfl #[.slice A2 l2.length c2] (by rfl) rfl rfl rfl (by (try simp only [List.map_toArray, List.map_cons, List.map_nil]); first | done | rfl) ?_
          refine (HFULL.out v4 (Below.refl v4.heap.size v4)).mono ?_
          rintro e u1 ⟨B1, d1, L1, hL1, rfl, hd1, hci, hb⟩
          refine ⟨_, rfl, ?_⟩
          refine hK.out _ _ ⟨pw_cell_below hb hHeld.1, pw_cell_below hb hHeld.2.1, pw_cell_below hb hHeld.2.2.1, pw_cell_below hb hHeld.2.2.2.1, pw_cell_below hb hHeld.2.2.2.2.1, pw_cell_below hb hHeld.2.2.2.2.2⟩ (fun hHeld => ?_)
          clear hK K
          refine norm_ (a' := ?_) ?_ ?_
          rotate_left
          · show Act.put _ (some 126) _ = _
            simp only [Act.put, List.setIfInBounds_toArray, List.set_cons_zero, List.set_cons_succ, i64_w, i32_w]
            rfl
          have hbv := (Below.refl v4.heap.size v4)
          have hu1 := below_then hbv hbv.size hb
          refine two_ (i := 4) (j := 9) (Ni := some 127) (Nj := some 22) #[true, true, true, true, true, false, false, false, false, false, false, false, false] #[true, true, true, true, false, false, false, false, false, true, false, false, false] rfl rfl rfl rfl (by kernel_rfl) (by decide) (by decide) (fun K hK => ?_) (fun K hK => ?_)
          · skip
            refine goes_ Try.func9 (by kernel_rfl) rfl #[.agg #[.slice p7.a0 S0.th.length p7.c0, .slice p7.a1 S0.at_.length p7.c1, .slice p7.a2 S0.su.length p7.c2, .slice p7.a3 S0.lo.length p7.c3, .slice p7.a4 S0.ce.length p7.c4, .slice p7.a5 S0.ch.length p7.c5], .slice B1 n d1] (by rfl) rfl rfl (by (try simp only [List.map_toArray, List.map_cons, List.map_nil]); first | done | rfl) ?_
            refine (HRUN.out (fun _ => false) u1 B1 d1 L1 hu1 (fun k hk => by cases hk) hci hL1).mono ?_
            rintro e u2 ⟨r, q, B, d, hro, rfl, hs, hb⟩
            refine ⟨_, rfl, ?_⟩
            refine hK.out _ _ ⟨pw_cell_below hb hHeld.1, pw_cell_below hb hHeld.2.1, pw_cell_below hb hHeld.2.2.1, pw_cell_below hb hHeld.2.2.2.1, pw_cell_below hb hHeld.2.2.2.2.1, pw_cell_below hb hHeld.2.2.2.2.2⟩ (fun hHeld => ?_)
            clear hK K
            refine norm_ (a' := ?_) ?_ ?_
            rotate_left
            · show Act.put _ (some 127) _ = _
              simp only [Act.put, List.setIfInBounds_toArray, List.set_cons_zero, List.set_cons_succ, i64_w, i32_w]
              rfl
            have hu2 := below_then hu1 hu1.size hb
            refine pure_ (i := 5) (N := some 122) (v := ?_) (a' := ?_) #[true, true, true, true, true, true, false, false, false, false, false, false, false] rfl rfl (by kernel_rfl) (fun _ _ _ h => h) (Or.inl ⟨by rfl, ?_⟩) ?_ ?_
            rotate_left
            · intro w'
              go_simp
              with_reducible rfl
            rotate_left
            · simp only [Act.put, List.setIfInBounds_toArray, List.set_cons_zero, List.set_cons_succ, i64_w, i32_w]
              rfl
            refine pure_ (i := 6) (N := some 128) (v := ?_) (a' := ?_) #[true, true, true, true, true, true, true, false, false, false, false, false, false] rfl rfl (by kernel_rfl) (fun _ _ _ h => h) (Or.inl ⟨by rfl, ?_⟩) ?_ ?_
            rotate_left
            · intro w'
              go_simp
              with_reducible rfl
            rotate_left
            · simp only [Act.put, List.setIfInBounds_toArray, List.set_cons_zero, List.set_cons_succ, i64_w, i32_w]
              rfl
            refine pure_ (i := 7) (N := some 129) (v := ?_) (a' := ?_) #[true, true, true, true, true, true, true, true, false, false, false, false, false] rfl rfl (by kernel_rfl) (fun _ _ _ h => h) (Or.inl ⟨by rfl, ?_⟩) ?_ ?_
            rotate_left
            · intro w'
              go_simp
              with_reducible rfl
            rotate_left
            · simp only [Act.put, List.setIfInBounds_toArray, List.set_cons_zero, List.set_cons_succ, i64_w, i32_w]
              rfl
            refine pure_ (i := 8) (N := some 130) (v := ?_) (a' := ?_) #[true, true, true, true, true, true, true, true, true, false, false, false, false] rfl rfl (by kernel_rfl) (fun _ _ _ h => h) (Or.inl ⟨by rfl, ?_⟩) ?_ ?_
            rotate_left
            · intro w'
              go_simp
              with_reducible rfl
            rotate_left
            · simp only [Act.put, List.setIfInBounds_toArray, List.set_cons_zero, List.set_cons_succ, i64_w, i32_w]
              rfl
            refine one_ (i := 9) (N := some 22) #[true, true, true, true, true, true, true, true, true, true, false, false, false] rfl rfl (by kernel_rfl) (by decide) (fun K hK => ?_)
            refine value_ (v := .pointer (some ⟨u2.heap.size, 0, none⟩)) (w1 := u2.alloc (.cells z6 26)) (by rfl) rfl (by go_simp) ?_
            replace hb : Below u2.heap.size u2 (u2.alloc (.cells z6 26)) := (Below.refl _ _).alloc (Nat.le_refl _) _
            refine hK.out _ _ ⟨pw_cell_below hb hHeld.1, pw_cell_below hb hHeld.2.1, pw_cell_below hb hHeld.2.2.1, pw_cell_below hb hHeld.2.2.2.1, pw_cell_below hb hHeld.2.2.2.2.1, pw_cell_below hb hHeld.2.2.2.2.2⟩ (fun hHeld => norm_ ?_ (hc ⟨r, q, B, d, u2.heap.size, B1, d1⟩ _ (JG.callFirst hro hs hu2)))
            simp only [putAll, Act.put, List.setIfInBounds_toArray, List.set_cons_zero, List.set_cons_succ]
          · skip
            refine value_ (v := .pointer (some ⟨u1.heap.size, 0, none⟩)) (w1 := u1.alloc (.cells z6 26)) (by rfl) rfl (by go_simp) ?_
            replace hb : Below u1.heap.size u1 (u1.alloc (.cells z6 26)) := (Below.refl _ _).alloc (Nat.le_refl _) _
            refine hK.out _ _ ⟨pw_cell_below hb hHeld.1, pw_cell_below hb hHeld.2.1, pw_cell_below hb hHeld.2.2.1, pw_cell_below hb hHeld.2.2.2.1, pw_cell_below hb hHeld.2.2.2.2.1, pw_cell_below hb hHeld.2.2.2.2.2⟩ (fun hHeld => ?_)
            clear hK K
            refine norm_ (a' := ?_) ?_ ?_
            rotate_left
            · show Act.put _ (some 22) _ = _
              simp only [Act.put, List.setIfInBounds_toArray, List.set_cons_zero, List.set_cons_succ, i64_w, i32_w]
              rfl
            have hua := below_then hu1 hu1.size hb
            replace hci := Kd.C_below hci hb
            refine one_ (i := 4) (N := some 127) #[true, true, true, true, true, false, false, false, false, true, false, false, false] rfl rfl (by kernel_rfl) (by decide) (fun K hK => ?_)
            refine goes_ Try.func9 (by kernel_rfl) rfl #[.agg #[.slice p7.a0 S0.th.length p7.c0, .slice p7.a1 S0.at_.length p7.c1, .slice p7.a2 S0.su.length p7.c2, .slice p7.a3 S0.lo.length p7.c3, .slice p7.a4 S0.ce.length p7.c4, .slice p7.a5 S0.ch.length p7.c5], .slice B1 n d1] (by rfl) rfl rfl (by (try simp only [List.map_toArray, List.map_cons, List.map_nil]); first | done | rfl) ?_
            refine (HRUN.out (fun k => k == u1.heap.size) (u1.alloc (.cells z6 26)) B1 d1 L1 hua (fun k hk => by have h1 := beq_iff_eq.1 hk; subst h1; rw [alloc_size]; exact ⟨hu1.size, Nat.lt_succ_self _⟩) hci hL1).mono ?_
            rintro e u2 ⟨r, q, B, d, hro, rfl, hs, hb⟩
            refine ⟨_, rfl, ?_⟩
            refine hK.out _ _ ⟨pw_cell_below hb hHeld.1, pw_cell_below hb hHeld.2.1, pw_cell_below hb hHeld.2.2.1, pw_cell_below hb hHeld.2.2.2.1, pw_cell_below hb hHeld.2.2.2.2.1, pw_cell_below hb hHeld.2.2.2.2.2⟩ (fun hHeld => ?_)
            clear hK K
            refine norm_ (a' := ?_) ?_ ?_
            rotate_left
            · show Act.put _ (some 127) _ = _
              simp only [Act.put, List.setIfInBounds_toArray, List.set_cons_zero, List.set_cons_succ, i64_w, i32_w]
              rfl
            refine pure_ (i := 5) (N := some 122) (v := ?_) (a' := ?_) #[true, true, true, true, true, true, false, false, false, true, false, false, false] rfl rfl (by kernel_rfl) (fun _ _ _ h => h) (Or.inl ⟨by rfl, ?_⟩) ?_ ?_
            rotate_left
            · intro w'
              go_simp
              with_reducible rfl
            rotate_left
            · simp only [Act.put, List.setIfInBounds_toArray, List.set_cons_zero, List.set_cons_succ, i64_w, i32_w]
              rfl
            refine pure_ (i := 6) (N := some 128) (v := ?_) (a' := ?_) #[true, true, true, true, true, true, true, false, false, true, false, false, false] rfl rfl (by kernel_rfl) (fun _ _ _ h => h) (Or.inl ⟨by rfl, ?_⟩) ?_ ?_
            rotate_left
            · intro w'
              go_simp
              with_reducible rfl
            rotate_left
            · simp only [Act.put, List.setIfInBounds_toArray, List.set_cons_zero, List.set_cons_succ, i64_w, i32_w]
              rfl
            refine pure_ (i := 7) (N := some 129) (v := ?_) (a' := ?_) #[true, true, true, true, true, true, true, true, false, true, false, false, false] rfl rfl (by kernel_rfl) (fun _ _ _ h => h) (Or.inl ⟨by rfl, ?_⟩) ?_ ?_
            rotate_left
            · intro w'
              go_simp
              with_reducible rfl
            rotate_left
            · simp only [Act.put, List.setIfInBounds_toArray, List.set_cons_zero, List.set_cons_succ, i64_w, i32_w]
              rfl
            refine pure_ (i := 8) (N := some 130) (v := ?_) (a' := ?_) #[true, true, true, true, true, true, true, true, true, true, false, false, false] rfl rfl (by kernel_rfl) (fun _ _ _ h => h) (Or.inl ⟨by rfl, ?_⟩) ?_ ?_
            rotate_left
            · intro w'
              go_simp
              with_reducible rfl
            rotate_left
            · simp only [Act.put, List.setIfInBounds_toArray, List.set_cons_zero, List.set_cons_succ, i64_w, i32_w]
              rfl
            refine norm_ ?_ (hc ⟨r, q, B, d, u1.heap.size, B1, d1⟩ _ (JG.allocFirst hro hu1 hs hb))
            simp only [putAll, Act.put, List.setIfInBounds_toArray, List.set_cons_zero, List.set_cons_succ]
        · skip
          refine value_ (v := .pointer (some ⟨v4.heap.size, 0, none⟩)) (w1 := v4.alloc (.cells z6 26)) (by rfl) rfl (by go_simp) ?_
          have hb : Below v4.heap.size v4 (v4.alloc (.cells z6 26)) := (Below.refl _ _).alloc (Nat.le_refl _) _
          refine hK.out _ _ ⟨pw_cell_below hb hHeld.1, pw_cell_below hb hHeld.2.1, pw_cell_below hb hHeld.2.2.1, pw_cell_below hb hHeld.2.2.2.1, pw_cell_below hb hHeld.2.2.2.2.1, pw_cell_below hb hHeld.2.2.2.2.2⟩ (fun hHeld => ?_)
          clear hK K
          refine norm_ (a' := ?_) ?_ ?_
          rotate_left
          · show Act.put _ (some 22) _ = _
            simp only [Act.put, List.setIfInBounds_toArray, List.set_cons_zero, List.set_cons_succ, i64_w, i32_w]
            rfl
          have hva := hb
          refine one_ (i := 3) (N := some 126) #[true, true, true, true, false, false, false, false, false, true, false, false, false] rfl rfl (by kernel_rfl) (by decide) (fun K hK => ?_)
          refine goesC_ Try.func16 (by kernel_rfl) rfl #[.slice A2 l2.length c2] (by rfl) rfl rfl rfl (by (try simp only [List.map_toArray, List.map_cons, List.map_nil]); first | done | rfl) ?_
          refine (HFULL.out (v4.alloc (.cells z6 26)) hva).mono ?_
          rintro e u1 ⟨B1, d1, L1, hL1, rfl, hd1, hci, hb⟩
          refine ⟨_, rfl, ?_⟩
          refine hK.out _ _ ⟨pw_cell_below hb hHeld.1, pw_cell_below hb hHeld.2.1, pw_cell_below hb hHeld.2.2.1, pw_cell_below hb hHeld.2.2.2.1, pw_cell_below hb hHeld.2.2.2.2.1, pw_cell_below hb hHeld.2.2.2.2.2⟩ (fun hHeld => ?_)
          clear hK K
          refine norm_ (a' := ?_) ?_ ?_
          rotate_left
          · show Act.put _ (some 126) _ = _
            simp only [Act.put, List.setIfInBounds_toArray, List.set_cons_zero, List.set_cons_succ, i64_w, i32_w]
            rfl
          have hbv := hva
          have hu1 := below_then hbv hbv.size hb
          have hub := hb
          refine one_ (i := 4) (N := some 127) #[true, true, true, true, true, false, false, false, false, true, false, false, false] rfl rfl (by kernel_rfl) (by decide) (fun K hK => ?_)
          refine goes_ Try.func9 (by kernel_rfl) rfl #[.agg #[.slice p7.a0 S0.th.length p7.c0, .slice p7.a1 S0.at_.length p7.c1, .slice p7.a2 S0.su.length p7.c2, .slice p7.a3 S0.lo.length p7.c3, .slice p7.a4 S0.ce.length p7.c4, .slice p7.a5 S0.ch.length p7.c5], .slice B1 n d1] (by rfl) rfl rfl (by (try simp only [List.map_toArray, List.map_cons, List.map_nil]); first | done | rfl) ?_
          refine (HRUN.out (fun k => k == v4.heap.size) u1 B1 d1 L1 hu1 (fun k hk => by have h1 := beq_iff_eq.1 hk; subst h1; have h2 := hub.size; rw [alloc_size] at h2; exact ⟨Nat.le_refl _, by omega⟩) hci hL1).mono ?_
          rintro e u2 ⟨r, q, B, d, hro, rfl, hs, hb⟩
          refine ⟨_, rfl, ?_⟩
          refine hK.out _ _ ⟨pw_cell_below hb hHeld.1, pw_cell_below hb hHeld.2.1, pw_cell_below hb hHeld.2.2.1, pw_cell_below hb hHeld.2.2.2.1, pw_cell_below hb hHeld.2.2.2.2.1, pw_cell_below hb hHeld.2.2.2.2.2⟩ (fun hHeld => ?_)
          clear hK K
          refine norm_ (a' := ?_) ?_ ?_
          rotate_left
          · show Act.put _ (some 127) _ = _
            simp only [Act.put, List.setIfInBounds_toArray, List.set_cons_zero, List.set_cons_succ, i64_w, i32_w]
            rfl
          refine pure_ (i := 5) (N := some 122) (v := ?_) (a' := ?_) #[true, true, true, true, true, true, false, false, false, true, false, false, false] rfl rfl (by kernel_rfl) (fun _ _ _ h => h) (Or.inl ⟨by rfl, ?_⟩) ?_ ?_
          rotate_left
          · intro w'
            go_simp
            with_reducible rfl
          rotate_left
          · simp only [Act.put, List.setIfInBounds_toArray, List.set_cons_zero, List.set_cons_succ, i64_w, i32_w]
            rfl
          refine pure_ (i := 6) (N := some 128) (v := ?_) (a' := ?_) #[true, true, true, true, true, true, true, false, false, true, false, false, false] rfl rfl (by kernel_rfl) (fun _ _ _ h => h) (Or.inl ⟨by rfl, ?_⟩) ?_ ?_
          rotate_left
          · intro w'
            go_simp
            with_reducible rfl
          rotate_left
          · simp only [Act.put, List.setIfInBounds_toArray, List.set_cons_zero, List.set_cons_succ, i64_w, i32_w]
            rfl
          refine pure_ (i := 7) (N := some 129) (v := ?_) (a' := ?_) #[true, true, true, true, true, true, true, true, false, true, false, false, false] rfl rfl (by kernel_rfl) (fun _ _ _ h => h) (Or.inl ⟨by rfl, ?_⟩) ?_ ?_
          rotate_left
          · intro w'
            go_simp
            with_reducible rfl
          rotate_left
          · simp only [Act.put, List.setIfInBounds_toArray, List.set_cons_zero, List.set_cons_succ, i64_w, i32_w]
            rfl
          refine pure_ (i := 8) (N := some 130) (v := ?_) (a' := ?_) #[true, true, true, true, true, true, true, true, true, true, false, false, false] rfl rfl (by kernel_rfl) (fun _ _ _ h => h) (Or.inl ⟨by rfl, ?_⟩) ?_ ?_
          rotate_left
          · intro w'
            go_simp
            with_reducible rfl
          rotate_left
          · simp only [Act.put, List.setIfInBounds_toArray, List.set_cons_zero, List.set_cons_succ, i64_w, i32_w]
            rfl
          refine norm_ ?_ (hc ⟨r, q, B, d, v4.heap.size, B1, d1⟩ _ (JG.allocFirst hro (Below.refl _ _) hs (below_then hub hub.size hb)))
          simp only [putAll, Act.put, List.setIfInBounds_toArray, List.set_cons_zero, List.set_cons_succ]
      rintro ⟨r9, q9, B9, d9, g9, B1, d1⟩ u9 hF
      refine norm_ (a' := ?_) ?_ ?_
      rotate_left
      · simp only [putAll, Act.put, List.setIfInBounds_toArray, List.set_cons_zero, List.set_cons_succ, i64_w, i32_w]
        rfl
      have HF := Aside0.mk hF
      clear hF hHeld
      unfold sysA
      refine last_ (i := 10) (N := none) #[true, true, true, true, true, true, true, true, true, true, true, false, false] rfl rfl (by kernel_rfl) (by decide) (fun K hK => ?_)
      obtain ⟨q0, q1, q2, q3, q4, q5⟩ := six_cells (show u9.heap[g9]? = some (.cells z6 26 (0, 0)) from HF.out.blk)
      obtain ⟨x0, x1, x2, x3, x4, x5⟩ := six_frozen (show u9.heap[g9]? = some (.cells z6 26 (0, 0)) from HF.out.blk)
      refine skip_ (w1 := ?_) (by rfl) rfl ?_ ?_
      rotate_left
      · go_simp
        rfl
      refine hK.out _ _ ?_
      clear hK K
      clear q0 q1 q2 q3 q4 q5 x0 x1 x2 x3 x4 x5
      have HJ : Aside0 (JH v4 xs ((((((u9.setCell ⟨g9, 0, none⟩ (.slice q9.a0 r9.1.th.length q9.c0)).setCell ⟨g9, 1, none⟩ (.slice q9.a1 r9.1.at_.length q9.c1)).setCell ⟨g9, 2, none⟩ (.slice q9.a2 r9.1.su.length q9.c2)).setCell ⟨g9, 3, none⟩ (.slice q9.a3 r9.1.lo.length q9.c3)).setCell ⟨g9, 4, none⟩ (.slice q9.a4 r9.1.ce.length q9.c4)).setCell ⟨g9, 5, none⟩ (.slice q9.a5 r9.1.ch.length q9.c5)) r9 q9 g9) := ⟨HF.out.store⟩
      clear HF
      generalize ((((((u9.setCell ⟨g9, 0, none⟩ (.slice q9.a0 r9.1.th.length q9.c0)).setCell ⟨g9, 1, none⟩ (.slice q9.a1 r9.1.at_.length q9.c1)).setCell ⟨g9, 2, none⟩ (.slice q9.a2 r9.1.su.length q9.c2)).setCell ⟨g9, 3, none⟩ (.slice q9.a3 r9.1.lo.length q9.c3)).setCell ⟨g9, 4, none⟩ (.slice q9.a4 r9.1.ce.length q9.c4)).setCell ⟨g9, 5, none⟩ (.slice q9.a5 r9.1.ch.length q9.c5)) = w9 at *
      refine pure_ (i := 11) (N := some 23) (v := ?_) (a' := ?_) #[true, true, true, true, true, true, true, true, true, true, true, true, false] rfl rfl (by kernel_rfl) (fun _ _ _ h => h) (Or.inl ⟨by rfl, ?_⟩) ?_ ?_
      rotate_left
      · intro w'
        go_simp
        with_reducible rfl
      rotate_left
      · simp only [Act.put, List.setIfInBounds_toArray, List.set_cons_zero, List.set_cons_succ, i64_w, i32_w]
        rfl
      refine pure_ (i := 12) (N := some 24) (v := ?_) (a' := ?_) #[true, true, true, true, true, true, true, true, true, true, true, true, true] rfl rfl (by kernel_rfl) (fun _ _ _ h => h) (Or.inl ⟨by rfl, ?_⟩) ?_ ?_
      rotate_left
      · intro w'
        go_simp
        with_reducible rfl
      rotate_left
      · simp only [Act.put, List.setIfInBounds_toArray, List.set_cons_zero, List.set_cons_succ, i64_w, i32_w]
        rfl
      refine done_ (by kernel_rfl) ?_
      have HJ9 := HJ
      clear HJ HFULL HRUN
      have hb9 := HJ9.out.bel
      replace HA := Aside0.mk (blk_below HA.out hb9)
      replace HS7 := Aside0.mk (HS7.out.below hb9)
      replace HSTP := Aside0.mk (blk_below HSTP.out hb9)
      replace HCEP := Aside0.mk (blk_below HCEP.out hb9)
      replace HBW := Aside0.mk (below_then HBW.out HBW.out.size hb9)
      replace HJ8 := Aside0.mk (HJ8.out.below hb9)
      clear hb9
      obtain ⟨q0, q1, q2, q3, q4, q5⟩ := six_cells HA.out
      obtain ⟨z0, z1, z2, z3, z4, z5⟩ := six_cells HJ8.out.blk
      obtain ⟨y0, y1, y2, y3, y4, y5⟩ := six_cells HJ9.out.blk
      have g0 := blk_cell HSTP.out 0
      go_wp2_with (go_at_call 18; refine hold ?_)
      refine ⟨(doneR HJ8.out.rose HJ8.out.sys).mono ?_⟩
      rintro e wA ⟨rfl, hb⟩
      replace HA := Aside0.mk (blk_below HA.out hb)
      replace HS7 := Aside0.mk (HS7.out.below hb)
      replace HSTP := Aside0.mk (blk_below HSTP.out hb)
      replace HCEP := Aside0.mk (blk_below HCEP.out hb)
      replace HBW := Aside0.mk (below_then HBW.out HBW.out.size hb)
      replace HJ8 := Aside0.mk (HJ8.out.below hb)
      replace HJ9 := Aside0.mk (HJ9.out.below hb)
      clear q0 q1 q2 q3 q4 q5 z0 z1 z2 z3 z4 z5 y0 y1 y2 y3 y4 y5 g0 hb
      obtain ⟨q0, q1, q2, q3, q4, q5⟩ := six_cells HA.out
      obtain ⟨z0, z1, z2, z3, z4, z5⟩ := six_cells HJ8.out.blk
      obtain ⟨y0, y1, y2, y3, y4, y5⟩ := six_cells HJ9.out.blk
      have g0 := blk_cell HSTP.out 0
      go_wp2_with (go_at_call 18; refine hold ?_)
      refine ⟨(doneR HJ9.out.rose HJ9.out.sys).mono ?_⟩
      rintro e wB ⟨rfl, hb⟩
      replace HA := Aside0.mk (blk_below HA.out hb)
      replace HS7 := Aside0.mk (HS7.out.below hb)
      replace HSTP := Aside0.mk (blk_below HSTP.out hb)
      replace HCEP := Aside0.mk (blk_below HCEP.out hb)
      replace HBW := Aside0.mk (below_then HBW.out HBW.out.size hb)
      replace HJ8 := Aside0.mk (HJ8.out.below hb)
      replace HJ9 := Aside0.mk (HJ9.out.below hb)
      clear q0 q1 q2 q3 q4 q5 z0 z1 z2 z3 z4 z5 y0 y1 y2 y3 y4 y5 g0 hb
      obtain ⟨q0, q1, q2, q3, q4, q5⟩ := six_cells HA.out
      obtain ⟨z0, z1, z2, z3, z4, z5⟩ := six_cells HJ8.out.blk
      obtain ⟨y0, y1, y2, y3, y4, y5⟩ := six_cells HJ9.out.blk
      have g0 := blk_cell HSTP.out 0
      go_wp2_with (go_at_call 14; refine hold ?_)
      refine ⟨(numCe HJ8.out.rose HJ8.out.sys HCEP.out).mono ?_⟩
      rintro e wC ⟨rfl, hb⟩
      replace HA := Aside0.mk (blk_below HA.out hb)
      replace HS7 := Aside0.mk (HS7.out.below hb)
      replace HSTP := Aside0.mk (blk_below HSTP.out hb)
      replace HCEP := Aside0.mk (blk_below HCEP.out hb)
      replace HBW := Aside0.mk (below_then HBW.out HBW.out.size hb)
      replace HJ8 := Aside0.mk (HJ8.out.below hb)
      replace HJ9 := Aside0.mk (HJ9.out.below hb)
      clear q0 q1 q2 q3 q4 q5 z0 z1 z2 z3 z4 z5 y0 y1 y2 y3 y4 y5 g0 hb
      obtain ⟨q0, q1, q2, q3, q4, q5⟩ := six_cells HA.out
      obtain ⟨z0, z1, z2, z3, z4, z5⟩ := six_cells HJ8.out.blk
      obtain ⟨y0, y1, y2, y3, y4, y5⟩ := six_cells HJ9.out.blk
      have g0 := blk_cell HSTP.out 0
      go_wp2_with (go_at_call 14; refine hold ?_)
      refine ⟨(numCe HJ9.out.rose HJ9.out.sys HCEP.out).mono ?_⟩
      rintro e wD ⟨rfl, hb⟩
      replace HA := Aside0.mk (blk_below HA.out hb)
      replace HS7 := Aside0.mk (HS7.out.below hb)
      replace HSTP := Aside0.mk (blk_below HSTP.out hb)
      replace HCEP := Aside0.mk (blk_below HCEP.out hb)
      replace HBW := Aside0.mk (below_then HBW.out HBW.out.size hb)
      replace HJ8 := Aside0.mk (HJ8.out.below hb)
      replace HJ9 := Aside0.mk (HJ9.out.below hb)
      clear q0 q1 q2 q3 q4 q5 z0 z1 z2 z3 z4 z5 y0 y1 y2 y3 y4 y5 g0 hb
      obtain ⟨q0, q1, q2, q3, q4, q5⟩ := six_cells HA.out
      obtain ⟨z0, z1, z2, z3, z4, z5⟩ := six_cells HJ8.out.blk
      obtain ⟨y0, y1, y2, y3, y4, y5⟩ := six_cells HJ9.out.blk
      have g0 := blk_cell HSTP.out 0
      go_wp2_with (go_at_call 14; refine hold ?_)
      refine ⟨(numLo HJ8.out.rose HJ8.out.sys HS7.out HLO.out).mono ?_⟩
      rintro e wE ⟨rfl, hb⟩
      replace HA := Aside0.mk (blk_below HA.out hb)
      replace HS7 := Aside0.mk (HS7.out.below hb)
      replace HSTP := Aside0.mk (blk_below HSTP.out hb)
      replace HCEP := Aside0.mk (blk_below HCEP.out hb)
      replace HBW := Aside0.mk (below_then HBW.out HBW.out.size hb)
      replace HJ8 := Aside0.mk (HJ8.out.below hb)
      replace HJ9 := Aside0.mk (HJ9.out.below hb)
      clear q0 q1 q2 q3 q4 q5 z0 z1 z2 z3 z4 z5 y0 y1 y2 y3 y4 y5 g0 hb
      obtain ⟨q0, q1, q2, q3, q4, q5⟩ := six_cells HA.out
      obtain ⟨z0, z1, z2, z3, z4, z5⟩ := six_cells HJ8.out.blk
      obtain ⟨y0, y1, y2, y3, y4, y5⟩ := six_cells HJ9.out.blk
      have g0 := blk_cell HSTP.out 0
      go_wp2_with (go_at_call 14; refine hold ?_)
      refine ⟨(numLo HJ9.out.rose HJ9.out.sys HS7.out HLO.out).mono ?_⟩
      rintro e wF ⟨rfl, hb⟩
      replace HA := Aside0.mk (blk_below HA.out hb)
      replace HS7 := Aside0.mk (HS7.out.below hb)
      replace HSTP := Aside0.mk (blk_below HSTP.out hb)
      replace HCEP := Aside0.mk (blk_below HCEP.out hb)
      replace HBW := Aside0.mk (below_then HBW.out HBW.out.size hb)
      replace HJ8 := Aside0.mk (HJ8.out.below hb)
      replace HJ9 := Aside0.mk (HJ9.out.below hb)
      clear q0 q1 q2 q3 q4 q5 z0 z1 z2 z3 z4 z5 y0 y1 y2 y3 y4 y5 g0 hb
      obtain ⟨q0, q1, q2, q3, q4, q5⟩ := six_cells HA.out
      obtain ⟨z0, z1, z2, z3, z4, z5⟩ := six_cells HJ8.out.blk
      obtain ⟨y0, y1, y2, y3, y4, y5⟩ := six_cells HJ9.out.blk
      have g0 := blk_cell HSTP.out 0
      go_wp2
      go_ret
      exact ⟨rfl, HBW.out⟩
end Go.Proofs.Ythnimpbcfegmjaa.Own

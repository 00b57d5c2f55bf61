/-
  Rows of whole numbers, and rows of such rows, of the call's own; slices' Clone, Grow, Concat and Clip, walked by hand.
-/
import Derived.Test.YthnimpbcfegmjaaS0
import Derived.Lib.SliceRun
namespace Go.Proofs.Ythnimpbcfegmjaa.Own
open Go.RowKit Go.Proofs.YthnimpbcfegmjaaW.PrintWords Go.Proofs.YthnimpbcfegmjaaW.PrintLast Go.Proofs.YthnimpbcfegmjaaW.PrintMore Go.Proofs.Ythnimpbcfegmjaa.P Go.Proofs.Ythnimpbcfegmjaa.Model
set_option linter.unusedVariables false

structure Hold (p : Prop) : Prop where mk :: (out : p)
theorem hold {p : Prop} (h : Hold p) : p := h.out
/-- Whole numbers that are read; rows of them; instructions in threads. -/
abbrev CI (w : World) (A : Option Addr) (xs : List Int) : Prop := Kd.C (Kd.int .i64) w A xs.length xs
abbrev CR (w : World) (A : Option Addr) (xs : List (List Int)) : Prop := Kd.C (Kd.slice 3 (Kd.int .i64)) w A xs.length xs
abbrev CT (w : World) (A : Option Addr) (xs : List (List S44)) : Prop := Kd.C (Kd.slice 44 k44) w A xs.length xs
/-- A row of whole numbers of the call's own. -/
def RowI (w : World) (base : Nat) (v : Value) (xs : List Int) : Prop := w.ownsRow base 3 1 v xs.length (nums .i64 xs)
theorem nums_length (k : IntKind) (xs : List Int) : (nums k xs).length = xs.length := by simp [nums]
theorem nums_get {k : IntKind} {xs : List Int} {j : Nat} {x : Int} (h : xs[j]? = some x) : (nums k xs)[j]? = some (.int k x) := by simp [nums, h]
theorem nums_one (k : IntKind) (xs : List Int) : ∀ u ∈ nums k xs, u.oneCell' = true := by
  intro u hu
  simp only [nums, List.mem_map] at hu
  obtain ⟨x, _, rfl⟩ := hu
  rfl
theorem R_rowI {w : World} {base : Nat} {v : Value} {xs : List Int} {ok : Nat → Prop} (h : Kd.R (Kd.int .i64) 3 w base ok v xs) : RowI w base v xs := by
  obtain ⟨_, inner, hown, hr⟩ := h
  have hl : inner.length = xs.length := by have := hr.1; rw [this]; exact Nat.mul_one _
  have e : inner = nums .i64 xs := by
    refine List.ext_getElem? fun j => ?_
    by_cases hj : j < inner.length
    · obtain ⟨x, hx⟩ : ∃ x, xs[j]? = some x := ⟨_, List.getElem?_eq_getElem (by omega)⟩
      have h1 : (inner.drop (j * 1)).take 1 = [.int .i64 x] := hr.2 j x hx
      rw [nums_get hx]
      have h2 : ((inner.drop (j * 1)).take 1)[0]? = some (.int .i64 x) := by rw [h1]; rfl
      rwa [List.getElem?_take, if_pos (by omega), List.getElem?_drop, Nat.mul_one, Nat.add_zero] at h2
    · rw [List.getElem?_eq_none (by omega), List.getElem?_eq_none (by rw [nums_length]; omega)]
  subst e
  exact hown
theorem rowI_R {w : World} {base : Nat} {v : Value} {xs : List Int} (h : RowI w base v xs) : Kd.R (Kd.int .i64) 3 w base (fun _ => True) v xs :=
  ⟨fun _ _ => trivial, nums .i64 xs, h, by rw [nums_length]; exact (Nat.mul_one _).symm, fun j p hp => by
    show ((nums .i64 xs).drop (j * 1)).take 1 = [.int .i64 p]
    have hj := (List.getElem?_eq_some_iff.1 hp).1
    rw [Nat.mul_one, List.drop_eq_getElem_cons (by rw [nums_length]; omega)]
    simp only [List.take_succ_cons, List.take_zero]
    have := nums_get (k := .i64) hp
    rw [List.getElem?_eq_getElem (by rw [nums_length]; omega)] at this
    rw [Option.some.inj this]⟩
theorem rowI_C {w : World} {base : Nat} {v : Value} {xs : List Int} (h : RowI w base v xs) : ∃ A c, v = .slice A xs.length c ∧ xs.length ≤ c ∧ CI w A xs := Kd.R_reads (rowI_R h)
theorem below_row {w w1 : World} {base n size : Nat} {e : TypeId} {v : Value} {xs : List Value} (h : w.ownsRow base e size v n xs) (hb : Below w.heap.size w w1) : w1.ownsRow base e size v n xs := pw_own_below h hb
theorem own_open {w : World} {base g n c size : Nat} {e : TypeId} {xs : List Value} (h : w.ownsRow base e size (.slice (some ⟨g, 0, none⟩) n c) n xs) :
    ∃ cur, base ≤ g ∧ w.heap[g]? = some (.cells cur e (0, 0)) ∧ n ≤ c ∧ c ≤ maxLen ∧ cur.size = c * size ∧ cur.toList.take (n * size) = xs := by
  rcases h.2 with ⟨h1, _⟩ | ⟨g', cap, cur, h1, h2, h3, h4, h5, h6, h7⟩
  · cases h1
  · cases h1
    exact ⟨cur, h2, h3, h4, h5, h6, h7⟩
theorem own_cell {w : World} {base g n c size : Nat} {e : TypeId} {xs : List Value} (h : w.ownsRow base e size (.slice (some ⟨g, 0, none⟩) n c) n xs) {j : Nat} {u : Value} (hj : xs[j]? = some u) : w.cell? ⟨g, j, none⟩ = some u := by
  obtain ⟨cur, _, hb, _, _, _, ht⟩ := own_open h
  rw [blk_cell hb, ← Array.getElem?_toList]
  rw [← ht, List.getElem?_take] at hj
  split at hj
  · exact hj
  · cases hj
theorem own_set {w : World} {base g n c size : Nat} {e : TypeId} {xs : List Value} (h : w.ownsRow base e size (.slice (some ⟨g, 0, none⟩) n c) n xs) (j : Nat) (u : Value) :
    (w.setCell ⟨g, j, none⟩ u).ownsRow base e size (.slice (some ⟨g, 0, none⟩) n c) n (xs.set j u) := by
  obtain ⟨cur, h1, hb, h2, h3, h4, ht⟩ := own_open h
  refine ⟨by rw [List.length_set]; exact h.1, .inr ⟨g, c, cur.setIfInBounds j u, rfl, h1, blk_set hb j u, h2, h3, by simpa using h4, ?_⟩⟩
  rw [Array.toList_setIfInBounds, List.take_set, ht]
/-- A row of rows: the outer one is the call's own, the inner ones are only read. -/
def RowR (w : World) (base : Nat) (v : Value) (us : List Value) (xs : List (List Int)) : Prop :=
  w.ownsRow base 23 1 v xs.length us ∧ ∀ (j : Nat) (x : List Int) (u : Value), xs[j]? = some x → us[j]? = some u → ∃ (A : Option Addr) (c : Nat), u = Value.slice A x.length c ∧ x.length ≤ c ∧ CI w A x
theorem RowR.below {w w1 : World} {base : Nat} {v : Value} {us : List Value} {xs : List (List Int)} (h : RowR w base v us xs) (hb : Below w.heap.size w w1) : RowR w1 base v us xs :=
  ⟨below_row h.1 hb, fun j x u hx hu => by obtain ⟨A, c, h1, h2, h3⟩ := h.2 j x u hx hu; exact ⟨A, c, h1, h2, Kd.C_below h3 hb⟩⟩
theorem RowR.C {w : World} {base : Nat} {v : Value} {us : List Value} {xs : List (List Int)} (h : RowR w base v us xs) : ∃ A c, v = .slice A xs.length c ∧ xs.length ≤ c ∧ CR w A xs := by
  obtain ⟨h1, h2⟩ := h
  have hul : us.length = xs.length := by have := h1.1; rwa [Nat.mul_one] at this
  have hr : Reps ((Kd.slice 3 (Kd.int .i64)).K w) 1 xs us := ⟨by rw [hul, Nat.mul_one], fun j p hp => by
    have hj := (List.getElem?_eq_some_iff.1 hp).1
    obtain ⟨u, hu⟩ : ∃ u, us[j]? = some u := ⟨_, List.getElem?_eq_getElem (by omega)⟩
    obtain ⟨A, c, rfl, h3, h4⟩ := h2 j p u hp hu
    rw [Nat.mul_one, List.drop_eq_getElem_cons (by omega)]
    simp only [List.take_succ_cons, List.take_zero]
    have e : us[j] = .slice A p.length c := by rw [List.getElem?_eq_getElem (by omega)] at hu; exact Option.some.inj hu
    rw [e]
    exact ⟨A, c, rfl, h3, h4⟩⟩
  obtain ⟨A, c, hv, hC⟩ := own_reads_row h1 hr rfl
  refine ⟨A, c, hv, ?_, hC⟩
  rcases h1.2 with ⟨e, h0⟩ | ⟨g, cap, cur, e, _, _, hle, _⟩
  · omega
  · rw [hv] at e
    injection e with _ _ e
    omega
/-- Where a row of rows is read: its cells. -/
theorem CR_cells {w : World} {ad : Addr} {xs : List (List Int)} (h : CR w (some ad) xs) : ∃ us : List Value, us.length = xs.length ∧ (∀ (j : Nat) (u : Value), us[j]? = some u → w.cell? (ad.add j) = some u ∧ u.oneCell' = true) ∧
    ∀ (j : Nat) (x : List Int) (u : Value), xs[j]? = some x → us[j]? = some u → ∃ (A : Option Addr) (c : Nat), u = Value.slice A x.length c ∧ x.length ≤ c ∧ CI w A x := by
  have hall : ∀ j, j < xs.length → ∃ u, w.cell? (ad.add j) = some u ∧ u.oneCell' = true ∧ ∀ x, xs[j]? = some x → ∃ (A : Option Addr) (c : Nat), u = Value.slice A x.length c ∧ x.length ≤ c ∧ CI w A x := by
    intro j hj
    obtain ⟨ad', A, c, e, h1, h2, h3⟩ := at_L3 h (j : Int) (by omega) (by omega)
    injection e with e
    subst e
    rw [Int.toNat_natCast] at h1
    refine ⟨_, h1, rfl, fun x hx => ?_⟩
    have e2 : rd_L3 xs (j : Int) = x := by unfold rd_L3; rw [Int.toNat_natCast, List.getD_eq_getElem?_getD, hx]; rfl
    rw [e2] at h2 h3 ⊢
    exact ⟨A, c, rfl, h2, h3⟩
  refine ⟨(List.range xs.length).map (fun j => (w.cell? (ad.add j)).getD .nilIface), by simp, fun j u hu => ?_, fun j x u hx hu => ?_⟩
  · rw [List.getElem?_map] at hu
    obtain ⟨i, hi, rfl⟩ := Option.map_eq_some_iff.1 hu
    obtain ⟨hj, hi2⟩ := List.getElem?_eq_some_iff.1 hi
    simp only [List.getElem_range] at hi2
    subst hi2
    obtain ⟨u, h1, h2, _⟩ := hall j (by simpa using hj)
    rw [h1]
    exact ⟨rfl, h2⟩
  · rw [List.getElem?_map] at hu
    obtain ⟨i, hi, rfl⟩ := Option.map_eq_some_iff.1 hu
    obtain ⟨hj, hi2⟩ := List.getElem?_eq_some_iff.1 hi
    simp only [List.getElem_range] at hi2
    subst hi2
    obtain ⟨u, h1, _, h3⟩ := hall j (by simpa using hj)
    rw [h1]
    exact h3 x hx
theorem nil_of_none {α : Type} {d : Kd α} {w : World} {l : List α} (h : Kd.C d w none l.length l) : l = [] := by
  rcases Nat.eq_zero_or_pos l.length with h0 | h0
  · exact List.eq_nil_of_length_eq_zero h0
  · obtain ⟨ad, e, _⟩ := h.2.2 h0
    cases e

section
variable {ops : Array Oper} {rest : List Oper} {o : Oper} {a : Act} {Q : Exit → Act → World → Prop} {W : World}
/-- append(row, numbers...) at a plain region's list. -/
theorem app_ints (hgd : o.guard = none) (s x : Operand) (ho : o.op = .call { callee := .builtin .append, args := #[s, x], argTypes := #[23, 23] }) (w0 : World) (base : Nat) (v : Value) (xs ys : List Int) (A : Option Addr) (m c : Nat)
    (hs : a.eval s = v) (hx : a.eval x = .slice A m c) (HO : RowI W base v xs) (HC : Kd.C (Kd.int .i64) W A m ys) (HB : Below base w0 W) (hbase : base ≤ W.heap.size) (hl : xs.length + m ≤ 1000000)
    (h : ∀ v1 w1, RowI w1 base v1 (xs ++ ys) → Below base w0 w1 → W.grownBy w1 v.ownBlock → (v1.ownBlock = v.ownBlock ∨ ∃ b, v1.ownBlock = some b ∧ W.heap.size ≤ b) → wpList Try.prog ops Q rest (a.put o.dst v1) w1) : wpList Try.prog ops Q (o :: rest) a W :=
  Kd.R_append_rows (Kd.int .i64) (Rr := (Kd.int .i64).K W) (w0 := w0) base hgd s x 23 3 _ 8 ho Try.underlying23 info3 rfl (by decide) (by decide) v xs ys A m c (fun _ => True) (fun _ => False) hs hx (rowI_R HO) HC (fun _ _ hk => hk) (fun _ h => h.elim) (fun _ _ => trivial) HB hbase (by omega)
    fun v1 w1 hr hb hg hat => h v1 w1 (R_rowI hr) hb hg hat
end
def CloneP (l : List Int) (w : World) (e : Ending) (w' : World) : Prop := ∃ v, e = .returned v ∧ RowI w' w.heap.size v l ∧ Below w.heap.size w w'
theorem empty_row (w : World) (t : TypeId) (size : Nat) : (w.alloc (.cells #[] t)).ownsRow w.heap.size t size (.slice (some ⟨w.heap.size, 0, none⟩) 0 0) 0 [] := ⟨by simp, .inr ⟨w.heap.size, 0, #[], rfl, Nat.le_refl _, heap_alloc_new w _, Nat.le_refl _, Nat.zero_le _, by simp, by simp⟩⟩
set_option maxRecDepth 100000 in
set_option maxHeartbeats 4000000 in
theorem clone_calls (A : Option Addr) (c : Nat) (l : List Int) (w : World) (hC : CI w A l) (hm : l.length ≤ 100000) : Calls Try.prog 17 #[.slice A l.length c] w (CloneP l w) := by
  have qT : ∀ (w : World) (a : Option Addr) (n c n' c' : Nat), (binOp .eql 23 (.slice a n c) (.slice none n' c')).run Try.prog w = .ok (.bool a.isNone) w := fun w a n c n' c' => Go.Lib.run_eql_slice_nil w _ _ a n c n' c' Try.underlying23
  have HC := Aside0.mk hC
  clear hC
  cases A with
  | none =>
    obtain rfl := nil_of_none HC.out
    go_enter Try.func17, Try.ntmps17
    go_wp2
    go_ret
    exact ⟨_, rfl, World.ownsRow_nil _ _ _ _, Below.refl _ _⟩
  | some ad =>
    have hB := (Below.refl w.heap.size w).alloc (Nat.le_refl _) (.cells #[] 3)
    have HE : Aside0 (RowI (w.alloc (.cells #[] 3)) w.heap.size (.slice (some ⟨w.heap.size, 0, none⟩) 0 0) []) := ⟨empty_row w 3 1⟩
    have HB := Aside0.mk hB
    clear hB
    go_enter Try.func17, Try.ntmps17
    go_wp2_with (at_builtin; refine hold ?_)
    refine ⟨?_⟩
    refine app_ints rfl _ _ rfl w w.heap.size _ [] l (some ad) l.length c rfl rfl HE.out (Kd.C_below HC.out HB.out) HB.out HB.out.size (by simp; omega) ?_
    intro v1 w1 hr hb _ _
    rw [List.nil_append] at hr
    have HP : Aside0 (CloneP l w (.returned v1) w1) := ⟨⟨v1, rfl, hr, hb⟩⟩
    clear hr hb
    go_wp2
    go_ret
    exact HP.out
def CloneRP (l : List (List Int)) (w : World) (e : Ending) (w' : World) : Prop := ∃ v us, e = .returned v ∧ RowR w' w.heap.size v us l ∧ Below w.heap.size w w'
set_option maxRecDepth 100000 in
set_option maxHeartbeats 4000000 in
theorem cloneR_calls (A : Option Addr) (c : Nat) (l : List (List Int)) (w : World) (hC : CR w A l) (hm : l.length ≤ 100000) : Calls Try.prog 57 #[.slice A l.length c] w (CloneRP l w) := by
  have qT : ∀ (w : World) (a : Option Addr) (n c n' c' : Nat), (binOp .eql 24 (.slice a n c) (.slice none n' c')).run Try.prog w = .ok (.bool a.isNone) w := fun w a n c n' c' => Go.Lib.run_eql_slice_nil w _ _ a n c n' c' Try.underlying24
  have HC := Aside0.mk hC
  clear hC
  obtain ⟨i0, hi, hz0, hz1, hz2⟩ := info_parts info23
  cases A with
  | none =>
    obtain rfl := nil_of_none HC.out
    go_enter Try.func57, Try.ntmps57
    go_wp2
    go_ret
    exact ⟨_, [], rfl, ⟨World.ownsRow_nil _ _ _ _, fun j x u hx => by simp at hx⟩, Below.refl _ _⟩
  | some ad =>
    have hB := (Below.refl w.heap.size w).alloc (Nat.le_refl _) (.cells #[] 23)
    have HE := Aside0.mk (empty_row w 23 1)
    have HB := Aside0.mk hB
    obtain ⟨us, hul, hc, hk⟩ := CR_cells (Kd.C_below HC.out hB)
    have HUL := Aside0.mk hul
    have HUC := Aside0.mk hc
    have HUK := Aside0.mk hk
    clear hB hul hc hk
    go_enter Try.func57, Try.ntmps57
    go_wp2_with (at_builtin; refine hold ?_)
    refine ⟨?_⟩
    refine wpList_append_own _ rfl _ _ 24 rfl w.heap.size 23 i0 _ 1 24 Try.underlying24 hi hz0 hz1 hz2 rfl (by decide) _ 0 [] rfl HE.out ad l.length c us rfl (by rw [HUL.out, Nat.mul_one]) (fun j u hu => (HUC.out j u hu).1) (fun u hu => by obtain ⟨j, hj⟩ := List.mem_iff_getElem?.1 hu; exact (HUC.out j u hj).2) (Nat.le_trans (show 0 + l.length ≤ 100001 by omega) (by decide)) (by omega) HB.out.size ?_
    intro v1 w1 hown hgrow _
    rw [List.nil_append, Nat.zero_add] at hown
    have hb2 := HB.out.grown hgrow HB.out.size (fun k hk => by
      have hk2 : some w.heap.size = some k := hk
      injection hk2 with hk2
      omega)
    have hg : Below (w.alloc (.cells #[] 23)).heap.size (w.alloc (.cells #[] 23)) w1 ∨ True := .inr trivial
    have HP : Aside0 (CloneRP l w (.returned v1) w1) := ⟨⟨v1, us, rfl, ⟨hown, fun j x u hx hu => by
      obtain ⟨ad', A, c', e, h1, h2, h3⟩ := at_L3 HC.out (j : Int) (by omega) (by have := (List.getElem?_eq_some_iff.1 hx).1; omega)
      injection e with e
      subst e
      obtain ⟨A2, c2, e2, h4, h5⟩ := HUK.out j x u hx hu
      rw [Int.toNat_natCast] at h1
      have hc2 := (HUC.out j u hu).1
      have h6 := pw_cell_below HB.out h1
      rw [hc2] at h6
      have e3 : rd_L3 l (j : Int) = x := by unfold rd_L3; rw [Int.toNat_natCast, List.getD_eq_getElem?_getD, hx]; rfl
      rw [e3] at h2 h3 h6
      rw [Option.some.inj h6]
      exact ⟨A, c', rfl, h2, Kd.C_below h3 hb2⟩⟩, hb2⟩⟩
    clear hown hgrow hb2 hg
    go_wp2
    go_ret
    exact HP.out
end Go.Proofs.Ythnimpbcfegmjaa.Own

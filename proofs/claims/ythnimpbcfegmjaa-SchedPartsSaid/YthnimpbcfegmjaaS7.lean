/-
  A system whose rows are the call's own (but for the threads): what sched.step's parts write to.
-/
import Derived.Test.YthnimpbcfegmjaaS6
namespace Go.Proofs.Ythnimpbcfegmjaa.Own
open Go.RowKit Go.Proofs.YthnimpbcfegmjaaW.PrintWords Go.Proofs.YthnimpbcfegmjaaW.PrintLast Go.Proofs.YthnimpbcfegmjaaW.PrintMore Go.Proofs.Ythnimpbcfegmjaa.P Go.Proofs.Ythnimpbcfegmjaa.Model
set_option linter.unusedVariables false

/-- Each cell of w0 is one of w (w0 may lack blocks that w has). -/
structure Up (w0 w : World) : Prop where
  cell : ∀ {a : Addr} {v : Value}, w0.cell? a = some v → w.cell? a = some v
  size : w0.heap.size ≤ w.heap.size
theorem Up.refl (w : World) : Up w w := ⟨id, Nat.le_refl _⟩
theorem Up.trans {a b c : World} (h : Up a b) (k : Up b c) : Up a c := ⟨fun x => k.cell (h.cell x), Nat.le_trans h.size k.size⟩
theorem up_below {w w1 : World} (h : Below w.heap.size w w1) : Up w w1 := ⟨fun hc => pw_cell_below h hc, h.size⟩
theorem Up.drew {a b : World} (h : Up a b) : Up a b.drew := h.trans ⟨id, Nat.le_refl _⟩
theorem cell_ne (w : World) {q a : Addr} (hq : a.block ≠ q.block) (u : Value) : (w.setCell q u).cell? a = w.cell? a := World.cell?_of_block (w := w) (Below.heap_setCell _ _ _ _ hq)
theorem Up.setNone {w0 w : World} (h : Up w0 w) {q : Addr} (hq : ∀ a v, w0.cell? a = some v → a.block ≠ q.block) (u : Value) : Up w0 (w.setCell q u) := ⟨fun {a v} hc => (cell_ne w (hq a v hc) u).trans (h.cell hc), by simpa using h.size⟩
theorem Up.setCell {w0 w : World} (h : Up w0 w) {q : Addr} (hq : w0.heap.size ≤ q.block) (u : Value) : Up w0 (w.setCell q u) := h.setNone (fun a v hc => by have := World.block_lt_of_cell? w0 a hc; omega) u
theorem reads_up {α : Type} {R R' : α → List Value → Prop} {size : Nat} {w w1 : World} {A : Option Addr} {n : Nat} {ps : List α} (h : ReadsRow R size w A n ps) (hb : Up w w1) (hR : ∀ p c, R p c → R' p c) : ReadsRow R' size w1 A n ps := by
  refine ⟨h.1, h.2.1, fun hn => ?_⟩
  obtain ⟨ad, e, f⟩ := h.2.2 hn
  refine ⟨ad, e, fun j p hp => ?_⟩
  obtain ⟨c, h1, h2, h3⟩ := f j p hp
  exact ⟨c, h1, hR _ _ h2, fun i u hu => hb.cell (h3 i u hu)⟩
theorem CI_up {w w1 : World} {A : Option Addr} {xs : List Int} (h : CI w A xs) (hb : Up w w1) : CI w1 A xs := reads_up h hb (fun _ _ hp => hp)
theorem CR_up {w w1 : World} {A : Option Addr} {xs : List (List Int)} (h : CR w A xs) (hb : Up w w1) : CR w1 A xs := reads_up h hb (fun _ _ hp => by
  obtain ⟨A0, c0, e, h1, h2⟩ := hp
  exact ⟨A0, c0, e, h1, reads_up h2 hb (fun _ _ hp => hp)⟩)
theorem CT_up {w w1 : World} {A : Option Addr} {xs : List (List S44)} (h : CT w A xs) (hb : Up w w1) : CT w1 A xs := reads_up h hb (fun _ _ hp => by
  obtain ⟨A0, c0, e, h1, h2⟩ := hp
  exact ⟨A0, c0, e, h1, reads_up h2 hb (fun _ _ hp => hp)⟩)
theorem SysC.up {w w1 : World} {s : Syst} {p : Ad} (h : SysC w s p) (hb : Up w w1) : SysC w1 s p := ⟨CT_up h.r0 hb, h.h0, CI_up h.r1 hb, h.h1, CI_up h.r2 hb, h.h2, CI_up h.r3 hb, h.h3, CI_up h.r4 hb, h.h4, CR_up h.r5 hb, h.h5⟩
def ob (A : Option Addr) : Option Nat := A.map (·.block)
theorem own_far {w : World} {base n c size : Nat} {e : TypeId} {A : Option Addr} {xs : List Value} (h : w.ownsRow base e size (.slice A n c) n xs) {p : Addr} (hp : ob A ≠ some p.block) (u : Value) : (w.setCell p u).ownsRow base e size (.slice A n c) n xs := by
  refine ⟨h.1, ?_⟩
  rcases h.2 with h1 | ⟨g, cap, cur, h1, h2, h3, h4, h5, h6, h7⟩
  · exact .inl h1
  · cases h1
    exact .inr ⟨g, _, cur, rfl, h2, blk_far h3 (fun hg => hp (by rw [← hg]; rfl)) u, h4, h5, h6, h7⟩
theorem row_slice {w : World} {base n : Nat} {e : TypeId} {v : Value} {xs : List Value} (h : w.ownsRow base e 1 v n xs) : ∃ A c, v = .slice A n c := by
  rcases h.2 with ⟨h1, h2⟩ | ⟨g, cap, cur, h1, _⟩
  · refine ⟨none, 0, ?_⟩
    rw [h1, h2]
  · exact ⟨_, _, h1⟩
/-- The row's inner rows are read in the world ahead. -/
def Inner (w0 : World) (us : List Value) (xs : List (List Int)) : Prop := ∀ (j : Nat) (x : List Int) (u : Value), xs[j]? = some x → us[j]? = some u → ∃ (A : Option Addr) (c : Nat), u = Value.slice A x.length c ∧ x.length ≤ c ∧ CI w0 A x
def CloneR0P (w0 : World) (l : List (List Int)) (w : World) (e : Ending) (w' : World) : Prop := ∃ A c us, e = .returned (.slice A l.length c) ∧ w'.ownsRow w.heap.size 23 1 (.slice A l.length c) l.length us ∧ Inner w0 us l ∧ Below w.heap.size w w'
set_option maxRecDepth 100000 in
set_option maxHeartbeats 4000000 in
theorem cloneR0_calls (A : Option Addr) (c : Nat) (l : List (List Int)) (w0 w : World) (hC0 : CR w0 A l) (hB0 : Up w0 w) (hm : l.length ≤ 100000) : Calls Try.prog 57 #[.slice A l.length c] w (CloneR0P w0 l w) := by
  have hC := CR_up hC0 hB0
  have HC0 := Aside0.mk hC0
  have HB0 := Aside0.mk hB0
  clear hC0 hB0
  have qT : ∀ (w : World) (a : Option Addr) (n c n' c' : Nat), (binOp .eql 24 (.slice a n c) (.slice none n' c')).run Try.prog w = .ok (.bool a.isNone) w := fun w a n c n' c' => Go.Lib.run_eql_slice_nil w _ _ a n c n' c' Try.underlying24
  have HC := Aside0.mk hC
  clear hC
  obtain ⟨i0, hi, hz0, hz1, hz2⟩ := info_parts info23
  cases A with
  | none =>
    obtain rfl := nil_of_none HC.out
    go_enter Try.func57, Try.ntmps57
    go_wp2
    go_ret
    exact ⟨none, 0, [], rfl, World.ownsRow_nil _ _ _ _, fun j x u hx => by simp at hx, Below.refl _ _⟩
  | some ad =>
    have hB := (Below.refl w.heap.size w).alloc (Nat.le_refl _) (.cells #[] 23)
    have HE := Aside0.mk (empty_row w 23 1)
    have HB := Aside0.mk hB
    obtain ⟨us, hul, hc, hk⟩ := CR_cells (Kd.C_below HC.out hB)
    have HUL := Aside0.mk hul
    have HUC := Aside0.mk hc
    have HUK := Aside0.mk hk
    clear hB hul hc hk
    go_enter Try.func57, Try.ntmps57
    go_wp2_with (at_builtin; refine hold ?_)
    refine ⟨?_⟩
    refine wpList_append_own _ rfl _ _ 24 rfl w.heap.size 23 i0 _ 1 24 Try.underlying24 hi hz0 hz1 hz2 rfl (by decide) _ 0 [] rfl HE.out ad l.length c us rfl (by rw [HUL.out, Nat.mul_one]) (fun j u hu => (HUC.out j u hu).1) (fun u hu => by obtain ⟨j, hj⟩ := List.mem_iff_getElem?.1 hu; exact (HUC.out j u hj).2) (Nat.le_trans (show 0 + l.length ≤ 100001 by omega) (by decide)) (by omega) HB.out.size ?_
    intro v1 w1 hown hgrow _
    rw [List.nil_append, Nat.zero_add] at hown
    have hb2 := HB.out.grown hgrow HB.out.size (fun k hk => by
      have hk2 : some w.heap.size = some k := hk
      injection hk2 with hk2
      omega)
    have hg : Below (w.alloc (.cells #[] 23)).heap.size (w.alloc (.cells #[] 23)) w1 ∨ True := .inr trivial
    have HP : Aside0 (CloneR0P w0 l w (.returned v1) w1) := ⟨by
      obtain ⟨B, d, rfl⟩ := row_slice hown
      exact ⟨B, d, us, rfl, hown, fun j x u hx hu => by
        obtain ⟨ad', A, c', e, h1, h2, h3⟩ := at_L3 HC0.out (j : Int) (by omega) (by have := (List.getElem?_eq_some_iff.1 hx).1; omega)
        injection e with e
        subst e
        rw [Int.toNat_natCast] at h1
        have hc2 := (HUC.out j u hu).1
        have h6 := pw_cell_below (HB.out) (HB0.out.cell h1)
        rw [hc2] at h6
        have e3 : rd_L3 l (j : Int) = x := by unfold rd_L3; rw [Int.toNat_natCast, List.getD_eq_getElem?_getD, hx]; rfl
        rw [e3] at h2 h3 h6
        rw [Option.some.inj h6]
        exact ⟨A, c', rfl, h2, h3⟩, hb2⟩⟩
    clear hown hgrow hb2 hg
    go_wp2
    go_ret
    exact HP.out
theorem ownR_C {w0 w : World} {base c : Nat} {A : Option Addr} {us : List Value} {xs : List (List Int)} (h : w.ownsRow base 23 1 (.slice A xs.length c) xs.length us) (hi : Inner w0 us xs) (hb : Up w0 w) : CR w A xs ∧ xs.length ≤ c := by
  obtain ⟨A', c', e, h1, h2⟩ := RowR.C (w := w) (base := base) (v := .slice A xs.length c) (us := us) (xs := xs) ⟨h, fun j x u hx hu => by obtain ⟨B, d, e, h1, h2⟩ := hi j x u hx hu; exact ⟨B, d, e, h1, CI_up h2 hb⟩⟩
  injection e with e1 e2 e3
  subst e1 e3
  exact ⟨h2, h1⟩
def Inner2 (w0 : World) (b : Nat) (w : World) (us : List Value) (xs : List (List Int)) : Prop := ∀ (j : Nat) (x : List Int) (u : Value), xs[j]? = some x → us[j]? = some u → ∃ (A : Option Addr) (c : Nat), u = Value.slice A x.length c ∧ x.length ≤ c ∧ (CI w0 A x ∨ RowI w b (.slice A x.length c) x)
/-- A system of the call's own: w0 the world ahead, b where its rows begin. -/
structure OwnS (w0 : World) (b : Nat) (w : World) (s : Syst) (p : Ad) (us : List Value) : Prop where
  th : CT w0 p.a0 s.th
  h0 : s.th.length ≤ p.c0
  r1 : RowI w b (.slice p.a1 s.at_.length p.c1) s.at_
  r2 : RowI w b (.slice p.a2 s.su.length p.c2) s.su
  r3 : RowI w b (.slice p.a3 s.lo.length p.c3) s.lo
  r4 : RowI w b (.slice p.a4 s.ce.length p.c4) s.ce
  r5 : w.ownsRow b 23 1 (.slice p.a5 s.ch.length p.c5) s.ch.length us
  inn : Inner w0 us s.ch
  d12 : ob p.a1 = ob p.a2 → ob p.a1 = none
  d13 : ob p.a1 = ob p.a3 → ob p.a1 = none
  d14 : ob p.a1 = ob p.a4 → ob p.a1 = none
  d15 : ob p.a1 = ob p.a5 → ob p.a1 = none
  d23 : ob p.a2 = ob p.a3 → ob p.a2 = none
  d24 : ob p.a2 = ob p.a4 → ob p.a2 = none
  d25 : ob p.a2 = ob p.a5 → ob p.a2 = none
  d34 : ob p.a3 = ob p.a4 → ob p.a3 = none
  d35 : ob p.a3 = ob p.a5 → ob p.a3 = none
  d45 : ob p.a4 = ob p.a5 → ob p.a4 = none
  bel : Up w0 w
  ge : w0.heap.size ≤ b
/-- The same at the end: a row of the channels may be the call's own. -/
structure FinS (w0 : World) (b : Nat) (w : World) (s : Syst) (p : Ad) (us : List Value) : Prop where
  th : CT w0 p.a0 s.th
  h0 : s.th.length ≤ p.c0
  r1 : RowI w b (.slice p.a1 s.at_.length p.c1) s.at_
  r2 : RowI w b (.slice p.a2 s.su.length p.c2) s.su
  r3 : RowI w b (.slice p.a3 s.lo.length p.c3) s.lo
  r4 : RowI w b (.slice p.a4 s.ce.length p.c4) s.ce
  r5 : w.ownsRow b 23 1 (.slice p.a5 s.ch.length p.c5) s.ch.length us
  inn : Inner2 w0 b w us s.ch
  bel : Up w0 w
  ge : w0.heap.size ≤ b
theorem OwnS.fin {w0 w : World} {b : Nat} {s : Syst} {p : Ad} {us : List Value} (h : OwnS w0 b w s p us) : FinS w0 b w s p us :=
  ⟨h.th, h.h0, h.r1, h.r2, h.r3, h.r4, h.r5, fun j x u hx hu => by obtain ⟨A, c, e, h1, h2⟩ := h.inn j x u hx hu; exact ⟨A, c, e, h1, .inl h2⟩, h.bel, h.ge⟩
theorem OwnS.below {w0 w w1 : World} {b : Nat} {s : Syst} {p : Ad} {us : List Value} (h : OwnS w0 b w s p us) (hb : Below w.heap.size w w1) : OwnS w0 b w1 s p us :=
  ⟨h.th, h.h0, below_row h.r1 hb, below_row h.r2 hb, below_row h.r3 hb, below_row h.r4 hb, below_row h.r5 hb, h.inn, h.d12, h.d13, h.d14, h.d15, h.d23, h.d24, h.d25, h.d34, h.d35, h.d45, h.bel.trans (up_below hb), h.ge⟩
theorem rowI_CI {w : World} {b c : Nat} {A : Option Addr} {xs : List Int} (h : RowI w b (.slice A xs.length c) xs) : CI w A xs ∧ xs.length ≤ c := by
  obtain ⟨A', c', e, h1, h2⟩ := rowI_C h
  injection e with e1 e2 e3
  subst e1 e3
  exact ⟨h2, h1⟩
theorem FinS.sys {w0 w : World} {b : Nat} {s : Syst} {p : Ad} {us : List Value} (h : FinS w0 b w s p us) : SysC w s p := by
  obtain ⟨A', c', e, h1, h2⟩ := RowR.C (w := w) (base := b) (v := .slice p.a5 s.ch.length p.c5) (us := us) (xs := s.ch) ⟨h.r5, fun j x u hx hu => by
    obtain ⟨B, d, e, h1, h2⟩ := h.inn j x u hx hu
    refine ⟨B, d, e, h1, ?_⟩
    rcases h2 with h2 | h2
    · exact CI_up h2 h.bel
    · exact (rowI_CI h2).1⟩
  injection e with e1 e2 e3
  exact ⟨CT_up h.th h.bel, h.h0, (rowI_CI h.r1).1, (rowI_CI h.r1).2, (rowI_CI h.r2).1, (rowI_CI h.r2).2, (rowI_CI h.r3).1, (rowI_CI h.r3).2, (rowI_CI h.r4).1, (rowI_CI h.r4).2, by rw [e1]; exact h2, by rw [e3]; exact h1⟩
theorem own_low {w : World} {base n c size : Nat} {e : TypeId} {A : Option Addr} {xs : List Value} (h : w.ownsRow base e size (.slice A n c) n xs) {p : Addr} (hp : p.block < base) (u : Value) : (w.setCell p u).ownsRow base e size (.slice A n c) n xs := by
  refine own_far h (fun he => ?_) u
  rcases h.2 with ⟨h1, _⟩ | ⟨g, cap, cur, h1, h2, _⟩
  · cases h1
    cases he
  · cases h1
    injection he with he
    have : g = p.block := he
    omega
/-- A cell of a box is written. -/
theorem FinS.box {w0 w : World} {b : Nat} {s : Syst} {p : Ad} {us : List Value} (h : FinS w0 b w s p us) {q : Addr} (hq : q.block < b) (hq2 : w0.heap.size ≤ q.block) (u : Value) : FinS w0 b (w.setCell q u) s p us :=
  ⟨h.th, h.h0, own_low h.r1 hq u, own_low h.r2 hq u, own_low h.r3 hq u, own_low h.r4 hq u, own_low h.r5 hq u, fun j x v hx hv => by
    obtain ⟨A, c, e, h1, h2⟩ := h.inn j x v hx hv
    exact ⟨A, c, e, h1, h2.imp id (fun h3 => own_low h3 hq u)⟩, h.bel.setCell hq2 _, h.ge⟩
theorem nums_set (k : IntKind) (xs : List Int) (j : Nat) (x : Int) : nums k (xs.set j x) = (nums k xs).set j (.int k x) := by simp [nums, List.map_set]
theorem nd1 {x y : Option Nat} {g : Nat} (h : x = y → x = none) (hx : x = some g) : y ≠ some g := fun e => by
  have h1 := h (hx.trans e.symm)
  rw [hx] at h1
  cases h1
theorem nd2 {x y : Option Nat} {g : Nat} (h : x = y → x = none) (hy : y = some g) : x ≠ some g := fun e => by
  have h1 := h (e.trans hy.symm)
  rw [e] at h1
  cases h1
theorem OwnS.set1 {w0 w : World} {b : Nat} {s : Syst} {p : Ad} {us : List Value} (h : OwnS w0 b w s p us) {g : Nat} (hg : p.a1 = some ⟨g, 0, none⟩) (j : Nat) (x : Int) : OwnS w0 b (w.setCell ⟨g, j, none⟩ (.int .i64 x)) { s with at_ := s.at_.set j x } p us := by
  have hge : b ≤ g := by
    have h1 := h.r1
    rw [hg] at h1
    obtain ⟨_, h2, _⟩ := own_open h1
    exact h2
  have ho : ob p.a1 = some g := by rw [hg]; rfl
  have hr : RowI (w.setCell ⟨g, j, none⟩ (.int .i64 x)) b (.slice p.a1 (s.at_.set j x).length p.c1) (s.at_.set j x) := by
    have h1 := h.r1
    rw [hg] at h1 ⊢
    have h2 := own_set h1 j (.int .i64 x)
    rw [List.length_set]
    unfold RowI
    rw [List.length_set, nums_set]
    exact h2
  exact { h with r1 := hr, r2 := own_far h.r2 (nd1 h.d12 ho) _, r3 := own_far h.r3 (nd1 h.d13 ho) _, r4 := own_far h.r4 (nd1 h.d14 ho) _, r5 := own_far h.r5 (nd1 h.d15 ho) _, bel := h.bel.setCell (Nat.le_trans h.ge hge) _ }
theorem OwnS.set2 {w0 w : World} {b : Nat} {s : Syst} {p : Ad} {us : List Value} (h : OwnS w0 b w s p us) {g : Nat} (hg : p.a2 = some ⟨g, 0, none⟩) (j : Nat) (x : Int) : OwnS w0 b (w.setCell ⟨g, j, none⟩ (.int .i64 x)) { s with su := s.su.set j x } p us := by
  have hge : b ≤ g := by
    have h1 := h.r2
    rw [hg] at h1
    obtain ⟨_, h2, _⟩ := own_open h1
    exact h2
  have ho : ob p.a2 = some g := by rw [hg]; rfl
  have hr : RowI (w.setCell ⟨g, j, none⟩ (.int .i64 x)) b (.slice p.a2 (s.su.set j x).length p.c2) (s.su.set j x) := by
    have h1 := h.r2
    rw [hg] at h1 ⊢
    have h2 := own_set h1 j (.int .i64 x)
    rw [List.length_set]
    unfold RowI
    rw [List.length_set, nums_set]
    exact h2
  exact { h with r2 := hr, r1 := own_far h.r1 (nd2 h.d12 ho) _, r3 := own_far h.r3 (nd1 h.d23 ho) _, r4 := own_far h.r4 (nd1 h.d24 ho) _, r5 := own_far h.r5 (nd1 h.d25 ho) _, bel := h.bel.setCell (Nat.le_trans h.ge hge) _ }
theorem OwnS.set3 {w0 w : World} {b : Nat} {s : Syst} {p : Ad} {us : List Value} (h : OwnS w0 b w s p us) {g : Nat} (hg : p.a3 = some ⟨g, 0, none⟩) (j : Nat) (x : Int) : OwnS w0 b (w.setCell ⟨g, j, none⟩ (.int .i64 x)) { s with lo := s.lo.set j x } p us := by
  have hge : b ≤ g := by
    have h1 := h.r3
    rw [hg] at h1
    obtain ⟨_, h2, _⟩ := own_open h1
    exact h2
  have ho : ob p.a3 = some g := by rw [hg]; rfl
  have hr : RowI (w.setCell ⟨g, j, none⟩ (.int .i64 x)) b (.slice p.a3 (s.lo.set j x).length p.c3) (s.lo.set j x) := by
    have h1 := h.r3
    rw [hg] at h1 ⊢
    have h2 := own_set h1 j (.int .i64 x)
    rw [List.length_set]
    unfold RowI
    rw [List.length_set, nums_set]
    exact h2
  exact { h with r3 := hr, r1 := own_far h.r1 (nd2 h.d13 ho) _, r2 := own_far h.r2 (nd2 h.d23 ho) _, r4 := own_far h.r4 (nd1 h.d34 ho) _, r5 := own_far h.r5 (nd1 h.d35 ho) _, bel := h.bel.setCell (Nat.le_trans h.ge hge) _ }
theorem OwnS.set4 {w0 w : World} {b : Nat} {s : Syst} {p : Ad} {us : List Value} (h : OwnS w0 b w s p us) {g : Nat} (hg : p.a4 = some ⟨g, 0, none⟩) (j : Nat) (x : Int) : OwnS w0 b (w.setCell ⟨g, j, none⟩ (.int .i64 x)) { s with ce := s.ce.set j x } p us := by
  have hge : b ≤ g := by
    have h1 := h.r4
    rw [hg] at h1
    obtain ⟨_, h2, _⟩ := own_open h1
    exact h2
  have ho : ob p.a4 = some g := by rw [hg]; rfl
  have hr : RowI (w.setCell ⟨g, j, none⟩ (.int .i64 x)) b (.slice p.a4 (s.ce.set j x).length p.c4) (s.ce.set j x) := by
    have h1 := h.r4
    rw [hg] at h1 ⊢
    have h2 := own_set h1 j (.int .i64 x)
    rw [List.length_set]
    unfold RowI
    rw [List.length_set, nums_set]
    exact h2
  exact { h with r4 := hr, r1 := own_far h.r1 (nd2 h.d14 ho) _, r2 := own_far h.r2 (nd2 h.d24 ho) _, r3 := own_far h.r3 (nd2 h.d34 ho) _, r5 := own_far h.r5 (nd1 h.d45 ho) _, bel := h.bel.setCell (Nat.le_trans h.ge hge) _ }
end Go.Proofs.Ythnimpbcfegmjaa.Own

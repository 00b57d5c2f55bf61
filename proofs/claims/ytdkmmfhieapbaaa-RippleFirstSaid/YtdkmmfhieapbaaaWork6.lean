/-
  What a queue has, drained in order; a clone of drops; ripple.Sorted and ripple.Run, walked by hand.
-/
import Derived.Test.YtdkmmfhieapbaaaWork5
import Derived.Lib.SliceRun
namespace Go.Proofs.Ytdkmmfhieapbaaa.Own
open Go.RowKit Go.Proofs.YtdkmmfhieapbaaaW.PrintWords Go.Proofs.YtdkmmfhieapbaaaW.PrintLast Go.Proofs.Ytdkmmfhieapbaaa.P Go.Proofs.Ytdkmmfhieapbaaa.Plain
set_option linter.unusedVariables false
structure Hold (p : Prop) : Prop where mk :: (out : p)
theorem hold {p : Prop} (h : Hold p) : p := h.out
theorem q_push (a : Addr) (w : World) : (method 184 45 (.pointer (some a)) "downpour/ripple.push").run Try.prog w = .ok (38, .pointer (some a)) w := by kernel_rfl
theorem q_size (a : Addr) (w : World) : (method 184 45 (.pointer (some a)) "downpour/ripple.size").run Try.prog w = .ok (39, .pointer (some a)) w := by kernel_rfl
theorem q_take (a : Addr) (w : World) : (method 184 45 (.pointer (some a)) "downpour/ripple.take").run Try.prog w = .ok (40, .pointer (some a)) w := by kernel_rfl
theorem qn_push (a : Addr) (w : World) : (nilAhead 184 45 (.pointer (some a)) "downpour/ripple.push").run Try.prog w = .ok (some false) w := by kernel_rfl
theorem qn_size (a : Addr) (w : World) : (nilAhead 184 45 (.pointer (some a)) "downpour/ripple.size").run Try.prog w = .ok (some false) w := by kernel_rfl
theorem qn_take (a : Addr) (w : World) : (nilAhead 184 45 (.pointer (some a)) "downpour/ripple.take").run Try.prog w = .ok (some false) w := by kernel_rfl
attribute [local go_sem] q_push q_size q_take qn_push qn_size qn_take

theorem cl_inv {l : List S24} {j : Nat} {u : Value} (h : (cl l)[j]? = some u) : ∃ i a, l[i]? = some a ∧ ((j = 2 * i ∧ u = .int .i64 a.f0) ∨ (j = 2 * i + 1 ∧ u = .int .u64 a.f1)) := by
  have hj := (List.getElem?_eq_some_iff.1 h).1
  rw [cl_length] at hj
  obtain ⟨a, ha⟩ : ∃ a, l[j / 2]? = some a := ⟨_, List.getElem?_eq_getElem (by omega)⟩
  obtain ⟨h1, h2⟩ := cl_get ha
  refine ⟨j / 2, a, ha, ?_⟩
  rcases Nat.mod_two_eq_zero_or_one j with e | e
  · have e1 : 2 * (j / 2) = j := by omega
    rw [e1, h] at h1
    exact .inl ⟨e1.symm, Option.some.inj h1⟩
  · have e1 : 2 * (j / 2) + 1 = j := by omega
    rw [e1, h] at h2
    exact .inr ⟨e1.symm, Option.some.inj h2⟩
theorem cl_one (l : List S24) : ∀ u ∈ cl l, u.oneCell' = true := by
  intro u hu
  obtain ⟨j, hj⟩ := List.mem_iff_getElem?.1 hu
  obtain ⟨i, a, _, ⟨_, rfl⟩ | ⟨_, rfl⟩⟩ := cl_inv hj <;> rfl
theorem reads_cells {w : World} {ad : Addr} {l : List S24} (h : Kd.C k24 w (some ad) l.length l) : ∀ j u, (cl l)[j]? = some u → w.cell? (ad.add j) = some u := by
  intro j u hu
  obtain ⟨i, a, ha, hc⟩ := cl_inv hu
  have hi := (List.getElem?_eq_some_iff.1 ha).1
  obtain ⟨ad', e, hcells⟩ := h.2.2 (by omega)
  obtain rfl := Option.some.inj e
  obtain ⟨cs, _, hk, hcell⟩ := hcells i a ha
  obtain rfl := k24_open hk
  have e2 : k24.sz = 2 := rfl
  rw [e2] at hcell
  rcases hc with ⟨rfl, rfl⟩ | ⟨rfl, rfl⟩
  · have := hcell 0 _ rfl
    rwa [Nat.add_zero, Nat.mul_comm] at this
  · have := hcell 1 _ rfl
    rwa [Nat.mul_comm] at this

def CloneP (l : List S24) (w : World) (e : Ending) (w' : World) : Prop := ∃ v, e = .returned v ∧ Row w' w.heap.size v l ∧ Below w.heap.size w w'
set_option maxRecDepth 100000 in
set_option maxHeartbeats 4000000 in
theorem clone_calls (A : Option Addr) (c : Nat) (l : List S24) (w : World) (hC : Kd.C k24 w A l.length l) (hm : l.length ≤ 80000) : Calls Try.prog 18 #[.slice A l.length c] w (CloneP l w) := by
  have qT : ∀ (w : World) (a : Option Addr) (n c n' c' : Nat), (binOp .eql 25 (.slice a n c) (.slice none n' c')).run Try.prog w = .ok (.bool a.isNone) w := fun w a n c n' c' => Go.Lib.run_eql_slice_nil w _ _ a n c n' c' Try.underlying25
  have HC := Aside0.mk hC
  clear hC
  obtain ⟨i0, hi, hz0, hz1, hz2⟩ := info_parts info24
  cases A with
  | none =>
    have hl : l = [] := by
      rcases Nat.eq_zero_or_pos l.length with h | h
      · exact List.eq_nil_of_length_eq_zero h
      · obtain ⟨ad, e, _⟩ := HC.out.2.2 h
        cases e
    subst hl
    go_enter Try.func18, Try.ntmps18
    go_wp2
    go_ret
    exact ⟨_, rfl, World.ownsRow_nil _ _ _ _, Below.refl _ _⟩
  | some ad =>
    go_enter Try.func18, Try.ntmps18
    go_wp2_with (at_builtin; refine hold ?_)
    refine ⟨?_⟩
    have hB := (Below.refl w.heap.size w).alloc (Nat.le_refl _) (.cells #[] 24)
    have hown : (w.alloc (.cells #[] 24)).ownsRow w.heap.size 24 2 (.slice (some ⟨w.heap.size, 0, none⟩) 0 0) 0 [] := ⟨rfl, .inr ⟨w.heap.size, 0, #[], rfl, Nat.le_refl _, heap_alloc_new w _, Nat.le_refl _, Nat.zero_le _, rfl, rfl⟩⟩
    refine wpList_append_own _ rfl _ _ 25 rfl w.heap.size 24 i0 _ 2 16 Try.underlying25 hi hz0 hz1 hz2 rfl (by decide) _ 0 [] rfl hown ad l.length c (cl l) rfl (cl_length l) (reads_cells (Kd.C_below HC.out hB)) (cl_one l) (Nat.le_trans (show 0 + l.length ≤ 100001 by omega) (by decide)) (by omega) (by simp) ?_
    intro v' w1 hown' hgrow _
    have hB2 := hB.grown hgrow (by simp) (fun k hk => by
      have hk2 : some w.heap.size = some k := hk
      injection hk2 with hk2
      omega)
    rw [List.nil_append, Nat.zero_add] at hown'
    have HP : Aside0 (CloneP l w (.returned v') w1) := ⟨⟨v', rfl, hown', hB2⟩⟩
    clear hown' hgrow hB hown hB2
    go_wp2
    go_ret
    exact HP.out

def DrainP (gs : Nat) (v : Value) (L : List S24) (w : World) (e : Ending) (w' : World) : Prop := ∃ o, e = .returned o ∧ Row w' w.heap.size o L ∧ Fr w w' (fun k => k = gs ∨ some k = v.ownBlock)
/-- What holds at a drain's round. -/
structure DrR (gs base : Nat) (v0 : Value) (L0 : List S24) (w : World) (o : Value) (W : World) (vq : Value) (outs L : List S24) : Prop where
  q : Qd W gs base vq L
  o : Row W w.heap.size o outs
  all : outs ++ L = L0
  same : vq.ownBlock = v0.ownBlock
  fr : Fr w W (fun k => k = gs ∨ some k = v0.ownBlock)
theorem two_below (w : World) (d : S24) : Below w.heap.size w ((w.alloc (dob d)).alloc (dob d)) := (((Below.refl w.heap.size w).alloc (Nat.le_refl _) _).alloc (by simp) _)
theorem two_new (w : World) (d : S24) : ((w.alloc (dob d)).alloc (dob d)).heap[w.heap.size + 1]? = some (.cells #[.int .i64 d.f0, .int .u64 d.f1] 24 (0, 0)) := push_world w d
theorem Fr.row {w w1 : World} {ok : Nat → Prop} (h : Fr w w1 ok) {base : Nat} {v : Value} {xs : List S24} (hr : Row w base v xs) (hn : ∀ k, v.ownBlock = some k → ¬ ok k) : Row w1 base v xs := h.own hr hn
theorem DrR.row {gs base : Nat} {v0 : Value} {L0 : List S24} {w W w1 : World} {o vq : Value} {outs L : List S24} (h : DrR gs base v0 L0 w o W vq outs L) (hgs : gs < w.heap.size) (hvl : ∀ k, v0.ownBlock = some k → k < w.heap.size)
    (hf : Fr W w1 (fun k => k = gs ∨ some k = vq.ownBlock)) : Row w1 w.heap.size o outs :=
  hf.row h.o (fun k hk e => by
    have hb := own_base h.o k hk
    rcases e with e | e
    · omega
    · have := hvl k (by rw [← h.same]; exact e.symm)
      omega)
theorem DrR.step {gs base : Nat} {v0 : Value} {L0 : List S24} {w W w1 w2 : World} {o o' vq vq1 : Value} {d : S24} {outs L2 : List S24} (h : DrR gs base v0 L0 w o W vq outs (d :: L2)) (hgs : gs < w.heap.size) (hvl : ∀ k, v0.ownBlock = some k → k < w.heap.size)
    (hq : Qd w1 gs base vq1 L2) (hv : vq1.ownBlock = vq.ownBlock) (hf : Fr W w1 (fun k => k = gs ∨ some k = vq.ownBlock))
    (hown : w2.ownsRow w.heap.size 24 2 o' (outs.length + 1) (cl outs ++ [.int .i64 d.f0, .int .u64 d.f1])) (hgrow : ((w1.alloc (dob d)).alloc (dob d)).grownBy w2 o.ownBlock) : DrR gs base v0 L0 w o' w2 vq1 (outs ++ [d]) L2 := by
  have hsm : vq1.ownBlock = v0.ownBlock := hv.trans h.same
  have hf0 : Fr W w1 (fun k => k = gs ∨ some k = v0.ownBlock) := by rw [h.same] at hf; exact hf
  have hf1 := (h.fr.trans hf0 (fun _ _ e => e)).trans (Fr.of_below (two_below w1 d) (fun _ => False)) (fun _ _ e => e.elim)
  have hf2 : Fr w w2 (fun k => k = gs ∨ some k = v0.ownBlock) := hf1.trans (Fr.of_grown hgrow) (fun k hk e => by have := own_base h.o k e.symm; omega)
  have hg : Fr ((w1.alloc (dob d)).alloc (dob d)) w2 (fun k => some k = o.ownBlock) := Fr.of_grown hgrow
  refine ⟨?_, ?_, by rw [List.append_assoc]; exact h.all, hsm, hf2⟩
  · obtain ⟨xs, hx, e⟩ := hq.below (two_below w1 d)
    refine ⟨xs, ⟨⟨hg.blk hx.1.1 (fun e => ?_), hg.row hx.1.2 (fun k hk e => ?_)⟩, hx.2⟩, e⟩
    · have := own_base h.o gs e.symm
      omega
    · have h1 := own_base h.o k e.symm
      have h2 := hvl k (by rw [← hsm]; exact hk)
      omega
  · unfold Row
    rw [List.length_append, cl_append]
    exact hown
abbrev qfc (gs : Nat) : Value := .iface 45 (.pointer (some ⟨gs, 0, none⟩))
set_option maxRecDepth 100000 in
set_option maxHeartbeats 4000000 in
theorem drained_calls (gs base : Nat) (v : Value) (L : List S24) (w : World) (h : Qd w gs base v L) (hm : L.length ≤ 80000) : Calls Try.prog 20 #[qfc gs] w (DrainP gs v L w) := by
  have hgs : gs < w.heap.size := World.block_lt_of_cell? w _ h.hdr
  have hvl : ∀ k, v.ownBlock = some k → k < w.heap.size := fun k hk => by obtain ⟨xs, hx, _⟩ := h; exact own_lt hx.1.2 k hk
  have H0 : Aside0 (DrR gs base v L w (.slice none 0 0) w v [] L) := ⟨⟨h, World.ownsRow_nil _ _ _ _, rfl, rfl, Fr.refl _ _⟩⟩
  have HVL := Aside0.mk hvl
  clear h hvl
  obtain ⟨i0, hi, hz0, hz1, hz2⟩ := info_parts info24
  go_enter Try.func20, Try.ntmps20
  go_wp2
  go_loopg [3] L.length (fun gk v3 W => ∃ (vq : Value) (outs L' : List S24), outs.length + gk ≤ 80000 ∧ Aside0 (L'.length = gk) ∧ Aside0 (DrR gs base v L w v3 W vq outs L'))
  case atStart => exact ⟨v, [], L, by simpa using hm, ⟨rfl⟩, H0⟩
  case round => as_aux_lemma =>
    clear H0
    obtain ⟨vq, outs, L', ho, HL, HR⟩ := hrel
    cases L' with
    | nil =>
      go_wp2_with (go_at_call 39; refine (size_calls gs base vq [] _ HR.out.q).mono ?_; rintro e w2 ⟨rfl, rfl⟩)
      go_ret
      unfold DrainP
      have ha := HR.out.all
      rw [List.append_nil] at ha
      exact ⟨_, rfl, by rw [← ha]; exact HR.out.o, HR.out.fr⟩
    | cons d L2 =>
      have hg : ∃ g2, gk = g2 + 1 := ⟨L2.length, by have := HL.out; simp at this; omega⟩
      obtain ⟨g2, rfl⟩ := hg
      have hpos : decide ((0 : Int) < (L2.length : Int) + 1) = true := decide_eq_true (by omega)
      have hL2 : L2.length = g2 := by have := HL.out; simp at this; omega
      have HL2 := Aside0.mk hL2
      clear hL2
      go_wp2_with (first
        | (go_at_call 39; refine (size_calls gs base vq (d :: L2) _ HR.out.q).mono ?_; rintro e w2 ⟨rfl, rfl⟩; rw [List.length_cons])
        | (go_at_call 40; refine (take_some gs base vq d L2 _ HR.out.q (by rw [HL2.out]; omega)).mono ?_; rintro e w1 ⟨vq1, rfl, h1, h2, h3⟩; have HQ1 := Aside0.mk h1; have HV1 := Aside0.mk h2; have HF1 := Aside0.mk h3; clear h1 h2 h3)
        | (at_builtin; refine hold ?_))
      refine ⟨?_⟩
      refine wpList_append_own _ rfl _ _ 25 rfl w.heap.size 24 i0 _ 2 16 Try.underlying25 hi hz0 hz1 hz2 rfl (by decide) _ outs.length (cl outs) rfl (pw_own_below (HR.out.row hgs HVL.out HF1.out) (two_below w1 d)) ⟨w1.heap.size + 1, 0, none⟩ 1 1 [.int .i64 d.f0, .int .u64 d.f1] rfl rfl (World.news_of_block (two_new w1 d)) (two_one d) (Nat.le_trans (show outs.length + 1 ≤ 100001 by omega) (by decide)) (by omega) (Nat.le_trans (HR.out.fr.trans HF1.out (fun _ _ e => by rw [HR.out.same] at e; exact e)).size (two_below w1 d).size) ?_
      intro v' w2 hown' hgrow _
      have HR2 := Aside0.mk (HR.out.step hgs HVL.out HQ1.out HV1.out HF1.out hown' hgrow)
      clear hown' hgrow
      go_wp2
      go_roundg g2
      case rel => exact ⟨vq1, outs ++ [d], L2, by simp; omega, HL2, HR2⟩
      case measure => exact Nat.lt_succ_self _
end Go.Proofs.Ytdkmmfhieapbaaa.Own

/-
  The queue's methods: Push and Pop of rows, the heap's Push and Pop, push, size and take of the store, walked by hand.
-/
import Derived.Test.YtdkmmfhieapbaaaWork3
import Derived.Deep.RegionLaw
namespace Go.Proofs.Ytdkmmfhieapbaaa.Own
open Go.RowKit Go.Proofs.YtdkmmfhieapbaaaW.PrintWords Go.Proofs.YtdkmmfhieapbaaaW.PrintLast Go.Proofs.Ytdkmmfhieapbaaa.P Go.Proofs.Ytdkmmfhieapbaaa.Plain
set_option linter.unusedVariables false
attribute [local go_sem] m_len m_less m_swap m_push m_pop n_len n_less n_swap n_push n_pop

theorem as_drop (v : Value) (w : World) : (Instr.typeAssert (.iface 24 v) 20 24 true).run Try.prog w = .ok (.tuple #[v, .bool true]) w := by kernel_rfl
attribute [local go_sem] as_drop
/-- The store at gs: its rows. -/
def St (w : World) (gs base : Nat) (v : Value) (xs : List S24) : Prop := w.heap[gs]? = some (.cells #[v] 48 (0, 0)) ∧ Row w base v xs
theorem St.ne {w : World} {gs base : Nat} {v : Value} {xs : List S24} (h : St w gs base v xs) : some gs ≠ v.ownBlock := by
  intro e
  obtain ⟨cells, hc⟩ := own_typed h.2 gs e.symm
  rw [h.1] at hc
  injection hc with hc
  injection hc with _ hc
  exact absurd hc (by decide)
theorem Row.slice {w : World} {base : Nat} {v : Value} {xs : List S24} (h : Row w base v xs) : ∃ A c, v = .slice A xs.length c ∧ (xs.length = 0 ∨ ∃ g, A = some ⟨g, 0, none⟩) := by
  rcases h.2 with ⟨h1, h2⟩ | ⟨g, cap, cur, h1, _⟩
  · exact ⟨none, 0, by rw [h1, h2], .inl h2⟩
  · exact ⟨_, cap, h1, .inr ⟨g, rfl⟩⟩
abbrev dr (d : S24) : Value := .agg #[.int .i64 d.f0, .int .u64 d.f1]
def PushP (gs base : Nat) (v : Value) (xs : List S24) (d : S24) (w : World) (e : Ending) (w' : World) : Prop := ∃ v' : Value, e = .returned (.tuple #[]) ∧ St w' gs base v' (xs ++ [d]) ∧ (v'.ownBlock = v.ownBlock ∨ ∃ g, v'.ownBlock = some g ∧ w.heap.size ≤ g) ∧ Fr w w' (fun k => k = gs ∨ some k = v.ownBlock)
def dob (d : S24) : Obj := .cells #[.int .i64 d.f0, .int .u64 d.f1] 24
theorem two_one (d : S24) : ∀ u ∈ [Value.int .i64 d.f0, Value.int .u64 d.f1], u.oneCell' = true := by
  intro u hu
  simp only [List.mem_cons, List.not_mem_nil, or_false] at hu
  rcases hu with rfl | rfl <;> rfl
/-- Behind the two new blocks. -/
theorem push_world (w : World) (d : S24) : (((w.alloc (dob d)).alloc (dob d)).drew).heap[w.heap.size + 1]? = some (.cells #[.int .i64 d.f0, .int .u64 d.f1] 24 (0, 0)) := by
  show ((w.alloc (dob d)).alloc (dob d)).heap[w.heap.size + 1]? = _
  have := heap_alloc_new (w.alloc (dob d)) (dob d)
  simpa [dob] using this
theorem push_below (w : World) (d : S24) : Below w.heap.size w ((w.alloc (dob d)).alloc (dob d)).drew := ((((Below.refl w.heap.size w).alloc (Nat.le_refl _) _).alloc (by simp) _)).drew
theorem push_size (w : World) (d : S24) : (((w.alloc (dob d)).alloc (dob d)).drew).heap.size = w.heap.size + 2 := by simp
theorem push_end {w w1 : World} {gs base g cap : Nat} {v : Value} {xs : List S24} {d : S24} (hb : base ≤ w.heap.size) (h : St w gs base v xs)
    (hown : w1.ownsRow base 24 2 (.slice (some ⟨g, 0, none⟩) (xs.length + 1) cap) (xs.length + 1) (cl xs ++ [.int .i64 d.f0, .int .u64 d.f1]))
    (hgrow : (((w.alloc (dob d)).alloc (dob d)).drew).grownBy w1 v.ownBlock) (hat : v.ownBlock = some g ∨ g = w.heap.size + 2) :
    w1.cell? ⟨gs, 0, none⟩ = some v ∧ w1.frozen? ⟨gs, 0, none⟩ = false ∧ w1.cell? ⟨w.heap.size, 0, none⟩ = some (.int .i64 d.f0) ∧ w1.cell? ⟨w.heap.size, 1, none⟩ = some (.int .u64 d.f1) ∧
      PushP gs base v xs d w (.returned (.tuple #[])) (w1.setCell ⟨gs, 0, none⟩ (.slice (some ⟨g, 0, none⟩) (xs.length + 1) cap)) := by
  have hne := h.ne
  have hlt := blk_lt h.1
  have hf0 := Fr.of_below (push_below w d) (fun k => k = gs ∨ some k = v.ownBlock)
  have hf : Fr w w1 (fun k => k = gs ∨ some k = v.ownBlock) := hf0.trans (Fr.of_grown hgrow) (fun k _ e => .inr e)
  have hbk : w1.heap[gs]? = some (.cells #[v] 48 (0, 0)) := by
    rw [hgrow.block gs (by rw [push_size]; omega) hne, (push_below w d).block gs hlt]
    exact h.1
  have hvn : ∀ k, v.ownBlock = some k → k < w.heap.size := fun k hk => own_lt h.2 k hk
  have hd0 : w1.heap[w.heap.size]? = some (.cells #[.int .i64 d.f0, .int .u64 d.f1] 24 (0, 0)) := by
    rw [hgrow.block w.heap.size (by rw [push_size]; omega) (fun e => by have := hvn _ e.symm; omega)]
    have h1 := heap_alloc_new w (dob d)
    show ((w.alloc (dob d)).alloc (dob d)).heap[w.heap.size]? = _
    rw [Below.heap_alloc _ _ _ (by simp)]
    simpa [dob] using h1
  refine ⟨blk_cell hbk 0, blk_frozen hbk 0, blk_cell hd0 0, blk_cell hd0 1, _, rfl, ⟨blk_set hbk 0 _, ?_⟩, ?_, hf.set _ (fun _ => .inl rfl)⟩
  · unfold Row
    rw [List.length_append, cl_append]
    refine own_setCell (n := xs.length + 1) hown ?_ _
    intro e
    have hg : gs = g := by simpa [Value.ownBlock] using e
    rcases hat with e1 | e1
    · exact hne (by rw [hg]; exact e1.symm)
    · omega
  · rcases hat with e1 | e1
    · exact .inl e1.symm
    · exact .inr ⟨g, rfl, by omega⟩
set_option maxRecDepth 100000 in
set_option maxHeartbeats 4000000 in
theorem rpush_calls (gs base : Nat) (v : Value) (xs : List S24) (d : S24) (w : World) (h : St w gs base v xs) (hb0 : base ≤ w.heap.size) (hm : xs.length ≤ 100000) :
    Calls Try.prog 48 #[.pointer (some ⟨gs, 0, none⟩), .iface 24 (dr d)] w (PushP gs base v xs d w) := by
  have hne := h.ne
  obtain ⟨A, c, rfl, hA⟩ := h.2.slice
  have hq1 := hdr h.1
  have hgs := blk_lt h.1
  have e1 : (w.alloc (.cells #[.int .i64 d.f0, .int .u64 d.f1] 24)).cell? ⟨gs, 0, none⟩ = some (.slice A xs.length c) := by
    rw [World.cell?_of_block (w := w) (Below.heap_alloc _ _ _ hgs)]; exact hq1
  have e2 : ((w.alloc (.cells #[.int .i64 d.f0, .int .u64 d.f1] 24)).alloc (.cells #[.int .i64 d.f0, .int .u64 d.f1] 24)).cell? ⟨gs, 0, none⟩ = some (.slice A xs.length c) := by
    rw [World.cell?_of_block (w := w.alloc (.cells #[.int .i64 d.f0, .int .u64 d.f1] 24)) (Below.heap_alloc _ _ _ (by simp; omega))]; exact e1
  have HST := Aside0.mk h
  have HOWN : Aside0 ((((w.alloc (dob d)).alloc (dob d)).drew).ownsRow base 24 2 (.slice A xs.length c) xs.length (cl xs)) := ⟨row_below h.2 (push_below w d)⟩
  have HNEWS := Aside0.mk (World.news_of_block (push_world w d))
  have HB := Aside0.mk (show base ≤ (((w.alloc (dob d)).alloc (dob d)).drew).heap.size by rw [push_size]; omega)
  clear h hne hA hgs
  obtain ⟨i0, hi, hz0, hz1, hz2⟩ := info_parts info24
  go_enter Try.func48, Try.ntmps48
  go_wp2
  go_region_law ((refine step_append_lies _ (by rfl) _ _ _ (by rfl) base 24 i0 _ 2 16 Try.underlying46 hi hz0 hz1 hz2 rfl (by decide) (.slice A xs.length c) xs.length (cl xs) (by rfl) HOWN.out ⟨w.heap.size + 1, 0, none⟩ 1 1 [.int .i64 d.f0, .int .u64 d.f1] (by rfl) rfl HNEWS.out (two_one d) (by decide) (Nat.le_trans (show xs.length + 1 ≤ 100001 by omega) (by decide)) (by omega) HB.out (w.heap.size + 2) (push_size w d) ?_; intro g cap w1 hown1 hgrow hat hlt; obtain ⟨k1, k2, k3, k4, k5⟩ := push_end hb0 HST.out hown1 hgrow hat; have HP := Aside0.mk k5; clear hown1 hgrow hat hlt k5))
  all_goals (go_wp2; go_end0; exact HP.out)

theorem row_take {w : World} {base g c n : Nat} {xs : List S24} (h : Row w base (.slice (some ⟨g, 0, none⟩) xs.length c) xs) (hn : n ≤ xs.length) : Row w base (.slice (some ⟨g, 0, none⟩) n c) (xs.take n) := by
  obtain ⟨cur, h1, hb, h2, h3, h4, ht⟩ := own_open h
  unfold Row
  have e : (xs.take n).length = n := by rw [List.length_take]; omega
  rw [e]
  refine ⟨by rw [cl_length, e], .inr ⟨g, c, cur, rfl, h1, hb, by omega, h3, h4, ?_⟩⟩
  rw [cl_take, ← ht, List.take_take, Nat.min_eq_left (by omega)]
def RPopP (gs g c base : Nat) (xs : List S24) (d : S24) (n : Nat) (w : World) (e : Ending) (w' : World) : Prop := e = .returned (.iface 24 (dr d)) ∧ St w' gs base (.slice (some ⟨g, 0, none⟩) n c) (xs.take n) ∧ Fr w w' (fun k => k = gs)
set_option maxRecDepth 100000 in
set_option maxHeartbeats 4000000 in
theorem rpop_calls (gs g c base : Nat) (xs : List S24) (d : S24) (n : Nat) (w : World) (h : St w gs base (.slice (some ⟨g, 0, none⟩) (n + 1) c) xs) (hn : xs.length = n + 1) (hd : xs[n]? = some d) (hm : xs.length ≤ 100000) :
    Calls Try.prog 47 #[.pointer (some ⟨gs, 0, none⟩)] w (RPopP gs g c base xs d n w) := by
  have hne := h.ne
  have hgs := blk_lt h.1
  have hq1 := hdr h.1
  have hq2 := blk_frozen h.1 0
  have hrow := h.2
  rw [← hn] at hrow
  obtain ⟨a0, a1⟩ := row_cell hrow hd
  obtain ⟨cur, _, _, hc, hc2, _⟩ := own_open hrow
  have b1 : (n : Int) < (n : Int) + 1 := by omega
  have b2 : (0 : Int) ≤ n := by omega
  have b3 : (n : Int) ≤ c := by omega
  have b4 : (n : Int) ≤ 100000 := by omega
  have HST := Aside0.mk h
  have HP : Aside0 (RPopP gs g c base xs d n w (.returned (.iface 24 (dr d))) ((w.setCell ⟨gs, 0, none⟩ (.slice (some ⟨g, 0, none⟩) n c)).alloc (dob d))) := ⟨by
    have hr2 := row_take hrow (show n ≤ xs.length by omega)
    have hb := (Below.refl (w.setCell ⟨gs, 0, none⟩ (.slice (some ⟨g, 0, none⟩) n c)).heap.size (w.setCell ⟨gs, 0, none⟩ (.slice (some ⟨g, 0, none⟩) n c))).alloc (Nat.le_refl _) (dob d)
    exact ⟨rfl, ⟨blk_below (blk_set h.1 0 _) hb, row_below (own_setCell hr2 hne _) hb⟩, ((Fr.refl w _).setg _ _).alloc _⟩⟩
  clear h hrow hne hn hd hc hc2 hm
  go_enter Try.func47, Try.ntmps47
  go_wp2
  go_ret
  exact HP.out
theorem up_at (gs g c base : Nat) (xs : List S24) (w : World) (L : Nat) (hL : xs.length = L) (hq : w.heap[gs]? = some (.cells #[.slice (some ⟨g, 0, none⟩) L c] 48 (0, 0))) (hne : gs ≠ g)
    (h : Row w base (.slice (some ⟨g, 0, none⟩) L c) xs) (j : Nat) (hj : j < L) (hU : Up ltB xs L j) (hm : L ≤ 100000) :
    Calls Try.prog 44 #[ifc gs, .int .i64 j] w fun e w' => ∃ ys : List S24, e = .returned (.tuple #[]) ∧ ys.Perm xs ∧ Heap ltB ys L 0 ∧ Row w' base (.slice (some ⟨g, 0, none⟩) L c) ys ∧ Fr w w' (fun k => k = g) := by
  subst hL
  refine (up_calls gs g c base xs w hq hne h j hj hU hm).mono ?_
  rintro e w' ⟨ys, rfl, h1, h2, h3, h4⟩
  exact ⟨ys, rfl, h1, h2, h3, h4⟩
abbrev ifcA (gs : Nat) : Value := .iface 50 (.pointer (some ⟨gs, 0, none⟩))
/-- The heap of a queue. -/
def Hq (w : World) (gs base : Nat) (v : Value) (xs : List S24) : Prop := St w gs base v xs ∧ Heap ltB xs xs.length 0
def HPushP (gs base : Nat) (v : Value) (xs : List S24) (d : S24) (w : World) (e : Ending) (w' : World) : Prop := ∃ (v' : Value) (ys : List S24), e = .returned (.tuple #[]) ∧ Hq w' gs base v' ys ∧ ys.Perm (xs ++ [d]) ∧ (v'.ownBlock = v.ownBlock ∨ ∃ g, v'.ownBlock = some g ∧ w.heap.size ≤ g) ∧ Fr w w' (fun k => k = gs ∨ some k = v.ownBlock)
set_option maxRecDepth 100000 in
set_option maxHeartbeats 4000000 in
theorem hpush_calls (gs base : Nat) (v : Value) (xs : List S24) (d : S24) (w : World) (h : Hq w gs base v xs) (hb0 : base ≤ w.heap.size) (hm : xs.length ≤ 90000) :
    Calls Try.prog 41 #[ifc gs, .iface 24 (dr d)] w (HPushP gs base v xs d w) := by
  have H := Aside0.mk h
  clear h
  go_enter Try.func41, Try.ntmps41
  go_wp2_with fail
  go_at_call 48
  refine (rpush_calls gs base v xs d _ H.out.1 hb0 (by omega)).mono ?_
  rintro e w1 ⟨v1, rfl, hst, hv1, hf⟩
  have hl : (xs ++ [d]).length = xs.length + 1 := by simp
  obtain ⟨A, c, rfl, hA⟩ := hst.2.slice
  rw [hl] at hst hv1 hA
  obtain ⟨g, rfl⟩ := hA.resolve_left (by omega)
  have hq1 := hdr hst.1
  have hne := hst.ne
  have HS1 := Aside0.mk hst
  have HV1 := Aside0.mk hv1
  have HF1 := Aside0.mk hf
  have HNE := Aside0.mk (show gs ≠ g from fun e => hne (by rw [e]; rfl))
  clear hst hv1 hf hne hA hl
  go_wp2_with (first
    | (go_at_call 42; refine (len_calls _ _ _ _).mono ?_; rintro e w2 ⟨rfl, rfl⟩)
    | (go_at_call 44; refine (up_at gs g c base (xs ++ [d]) _ (xs.length + 1) (by simp) HS1.out.1 HNE.out HS1.out.2 xs.length (by omega) (up_start H.out.2) (by omega)).mono ?_; rintro e w2 ⟨ys, rfl, hp, hh, hr, hf⟩; have HP := Aside0.mk hp; have HH := Aside0.mk hh; have HR2 := Aside0.mk hr; have HF2 := Aside0.mk hf; clear hp hh hr hf))
  go_end0
  unfold HPushP
  have hl : ys.length = xs.length + 1 := by rw [HP.out.length_eq]; simp
  refine ⟨_, ys, rfl, ⟨⟨HF2.out.blk HS1.out.1 HNE.out, HR2.out⟩, by rw [hl]; exact HH.out⟩, HP.out, HV1.out, HF1.out.trans HF2.out (fun k hk e => ?_)⟩
  rcases HV1.out with h1 | ⟨g1, h1, h2⟩
  · exact .inr (by rw [e, ← h1]; rfl)
  · have : g = g1 := by simpa [Value.ownBlock] using h1
    omega
end Go.Proofs.Ytdkmmfhieapbaaa.Own

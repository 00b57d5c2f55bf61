/-
  The queue: the heap's Pop, and push, size and take of the store, walked by hand: a queue is its drops in order.
-/
import Derived.Test.YtdkmmfhieapbaaaWork4
namespace Go.Proofs.Ytdkmmfhieapbaaa.Own
open Go.RowKit Go.Proofs.YtdkmmfhieapbaaaW.PrintWords Go.Proofs.YtdkmmfhieapbaaaW.PrintLast Go.Proofs.Ytdkmmfhieapbaaa.P Go.Proofs.Ytdkmmfhieapbaaa.Plain
set_option linter.unusedVariables false
attribute [local go_sem] m_len m_less m_swap m_push m_pop n_len n_less n_swap n_push n_pop as_drop

def HPopP (gs g c base : Nat) (xs : List S24) (n : Nat) (w : World) (e : Ending) (w' : World) : Prop := ∃ (d : S24) (ys : List S24), e = .returned (.iface 24 (dr d)) ∧ Hq w' gs base (.slice (some ⟨g, 0, none⟩) n c) ys ∧ xs.Perm (d :: ys) ∧ (∀ y, y ∈ ys → ltB y d = false) ∧ Fr w w' (fun k => k = gs ∨ k = g)
set_option maxRecDepth 100000 in
set_option maxHeartbeats 4000000 in
theorem hpop_calls (gs g c base : Nat) (xs : List S24) (n : Nat) (w : World) (h : Hq w gs base (.slice (some ⟨g, 0, none⟩) (n + 1) c) xs) (hn : xs.length = n + 1) (hm : n ≤ 90000) :
    Calls Try.prog 43 #[ifc gs] w (HPopP gs g c base xs n w) := by
  have H := Aside0.mk h
  have hq1 := hdr h.1.1
  have HNE := Aside0.mk (show gs ≠ g from fun e => h.1.ne (by rw [e]; rfl))
  obtain ⟨a, ha⟩ : ∃ a, xs[0]? = some a := ⟨_, List.getElem?_eq_getElem (by omega)⟩
  obtain ⟨b, hb⟩ : ∃ b, xs[n]? = some b := ⟨_, List.getElem?_eq_getElem (by omega)⟩
  have HA := Aside0.mk ha
  have HB := Aside0.mk hb
  have HN := Aside0.mk hn
  have hh := h.2
  rw [hn] at hh
  have HH := Aside0.mk hh
  clear h ha hb hn hh
  go_enter Try.func43, Try.ntmps43
  go_wp2_with (first
    | (go_at_call 42; refine (len_calls _ _ _ _).mono ?_; rintro e w2 ⟨rfl, rfl⟩)
    | (go_at_call 46; refine (swap_at g c base xs _ (n + 1) _ _ 0 n a b H.out.1.2 HN.out rfl (by rfl) HA.out HB.out (by rw [HN.out]; omega)).mono ?_; rintro e w1 ⟨rfl, hr, hf⟩; have HR1 := Aside0.mk hr; have HF1 := Aside0.mk hf; clear hr hf hq1; have hq1 := hdr (HF1.out.blk H.out.1.1 HNE.out))
    | (go_at_call 21; refine (down_at gs g c base (sw xs 0 n a b) _ (n + 1) (by rw [sw_length]; exact HN.out) (HF1.out.blk H.out.1.1 HNE.out) HNE.out HR1.out n 0 0 _ _ rfl (by rfl) (by omega) (Nat.le_refl _) (Nat.zero_le _) (pop_down HH.out HA.out HB.out) (by omega)).mono ?_; rintro e w2 ⟨r, ys, rfl, h1, h2, h3, h4, h5, h6⟩; have HPL := Aside0.mk (pop_plain ltO HH.out HN.out HA.out HB.out h1 h2 h3 h4); have HL := Aside0.mk h1; have HR2 := Aside0.mk h5; have HF2 := Aside0.mk (HF1.out.trans h6 (fun _ _ e => e)); clear h1 h2 h3 h4 h5 h6 hq1; have hq1 := hdr (HF2.out.blk H.out.1.1 HNE.out))
    | (go_at_call 47; refine (rpop_calls gs g c base ys a n _ ⟨HF2.out.blk H.out.1.1 HNE.out, by rw [← HL.out] at *; exact HR2.out⟩ HL.out HPL.out.1 (by rw [HL.out]; omega)).mono ?_; rintro e w3 ⟨rfl, hst, hf⟩; have HST := Aside0.mk hst; have HF3 := Aside0.mk hf; clear hst hf))
  go_ret
  unfold HPopP
  obtain ⟨p1, p2, p3, p4, p5⟩ := HPL.out
  exact ⟨a, ys.take n, rfl, ⟨HST.out, by rw [p5]; exact p4⟩, p2, p3, (HF2.out.mono (fun _ _ e => .inr e)).trans HF3.out (fun _ _ e => .inl e)⟩

/-- A queue: its drops in order. -/
def Qd (w : World) (gs base : Nat) (v : Value) (L : List S24) : Prop := ∃ xs, Hq w gs base v xs ∧ srt ltB xs = L
theorem Qd.len {w : World} {gs base : Nat} {v : Value} {L : List S24} (h : Qd w gs base v L) : ∃ A c, v = .slice A L.length c := by
  obtain ⟨xs, hx, rfl⟩ := h
  obtain ⟨A, c, rfl, _⟩ := hx.1.2.slice
  exact ⟨A, c, by rw [srt_length]⟩
theorem Hq.below {w w1 : World} {gs base : Nat} {v : Value} {xs : List S24} (h : Hq w gs base v xs) (hb : Below w.heap.size w w1) : Hq w1 gs base v xs := ⟨⟨blk_below h.1.1 hb, row_below h.1.2 hb⟩, h.2⟩
theorem Qd.below {w w1 : World} {gs base : Nat} {v : Value} {L : List S24} (h : Qd w gs base v L) (hb : Below w.heap.size w w1) : Qd w1 gs base v L := by
  obtain ⟨xs, hx, e⟩ := h
  exact ⟨xs, hx.below hb, e⟩
theorem Qd.hdr {w : World} {gs base : Nat} {v : Value} {L : List S24} (h : Qd w gs base v L) : w.cell? ⟨gs, 0, none⟩ = some v := by
  obtain ⟨xs, hx, _⟩ := h
  exact Own.hdr hx.1.1

set_option maxRecDepth 100000 in
set_option maxHeartbeats 4000000 in
theorem size_calls (gs base : Nat) (v : Value) (L : List S24) (w : World) (h : Qd w gs base v L) : Calls Try.prog 39 #[.pointer (some ⟨gs, 0, none⟩)] w fun e w' => e = .returned (.int .i64 L.length) ∧ w = w' := by
  have hq := h.hdr
  obtain ⟨A, c, rfl⟩ := h.len
  clear h
  go_enter Try.func39, Try.ntmps39
  go_wp2_with (go_at_call 42; refine (len_calls _ _ _ _).mono ?_; rintro e w2 ⟨rfl, rfl⟩)
  go_ret
  exact ⟨rfl, rfl⟩

def QPushP (gs base : Nat) (v : Value) (L : List S24) (d : S24) (w : World) (e : Ending) (w' : World) : Prop := ∃ v' : Value, e = .returned (.tuple #[]) ∧ Qd w' gs base v' (ins ltB d L) ∧ (v'.ownBlock = v.ownBlock ∨ ∃ g, v'.ownBlock = some g ∧ w.heap.size ≤ g) ∧ Fr w w' (fun k => k = gs ∨ some k = v.ownBlock)
theorem qpush_at (gs base : Nat) (v : Value) (L : List S24) (d : S24) (w0 w : World) (hB : Below w0.heap.size w0 w) (h : Qd w0 gs base v L) (hb : base ≤ w0.heap.size) (hm : L.length ≤ 90000) :
    Calls Try.prog 41 #[ifc gs, .iface 24 (dr d)] w (QPushP gs base v L d w0) := by
  obtain ⟨xs, hx, rfl⟩ := h
  refine (hpush_calls gs base v xs d w (hx.below hB) (Nat.le_trans hb hB.size) (by rw [srt_length] at hm; exact hm)).mono ?_
  rintro e w' ⟨v', ys, rfl, h1, h2, h3, h4⟩
  refine ⟨v', rfl, ⟨ys, h1, by rw [srt_congr ltO h2, srt_snoc]⟩, ?_, (Fr.of_below hB _).trans h4 (fun _ _ e => e)⟩
  rcases h3 with h3 | ⟨g, h3, h5⟩
  · exact .inl h3
  · exact .inr ⟨g, h3, Nat.le_trans hB.size h5⟩
set_option maxRecDepth 100000 in
set_option maxHeartbeats 4000000 in
theorem push_calls (gs base : Nat) (v : Value) (L : List S24) (d : S24) (w : World) (h : Qd w gs base v L) (hb : base ≤ w.heap.size) (hm : L.length ≤ 90000) :
    Calls Try.prog 38 #[.pointer (some ⟨gs, 0, none⟩), dr d] w (QPushP gs base v L d w) := by
  have H := Aside0.mk h
  clear h
  have HB : Aside0 (Below w.heap.size w (w.alloc (dob d)).drew) := ⟨((Below.refl w.heap.size w).alloc (Nat.le_refl _) (dob d)).drew⟩
  go_enter Try.func38, Try.ntmps38
  go_wp2
  go_region_with ((go_at_call 41; refine (qpush_at gs base v L d w _ HB.out H.out hb hm).mono ?_; rintro e w1 ⟨v', rfl, h1, h2, h3⟩; have HP : Aside0 (QPushP gs base v L d w (.returned (.tuple #[])) w1) := ⟨⟨v', rfl, h1, h2, h3⟩⟩; clear h1 h2 h3))
  all_goals (go_wp2; go_end0; exact HP.out)

def TakeP (gs base : Nat) (v : Value) (L : List S24) (w : World) (e : Ending) (w' : World) : Prop := ∃ (v' : Value), e = .returned (.tuple #[dr (L.headD ⟨0, 0⟩), .bool (!L.isEmpty)]) ∧ Qd w' gs base v' L.tail ∧ v'.ownBlock = v.ownBlock ∧ Fr w w' (fun k => k = gs ∨ some k = v.ownBlock)
set_option maxRecDepth 100000 in
set_option maxHeartbeats 4000000 in
theorem take_none (gs base : Nat) (v : Value) (w : World) (h : Qd w gs base v []) :
    Calls Try.prog 40 #[.pointer (some ⟨gs, 0, none⟩)] w (TakeP gs base v [] w) := by
  have hz : Aside0 (Below w.heap.size w (w.alloc (.cells #[.int .i64 0, .int .u64 0] 24))) := ⟨(Below.refl w.heap.size w).alloc (Nat.le_refl _) _⟩
  have H := Aside0.mk h
  clear h
  go_enter Try.func40, Try.ntmps40
  go_wp2_with (go_at_call 39; refine (size_calls gs base v [] _ (H.out.below hz.out)).mono ?_; rintro e w2 ⟨rfl, rfl⟩)
  refine bodyPost_ret (v := .tuple #[.agg #[.int .i64 0, .int .u64 0], .bool false]) (by simp [results, Try.results40, go_sem]) rfl ?_
  exact ⟨v, rfl, H.out.below hz.out, rfl, Fr.of_below hz.out _⟩
theorem take_facts {w w1 : World} {gs g : Nat} (hgs : gs < w.heap.size) (hg : g < w.heap.size) (hf : Fr (w.alloc (.cells #[.int .i64 0, .int .u64 0] 24)) w1 (fun k => k = gs ∨ k = g)) :
    w1.heap[w.heap.size]? = some (.cells #[.int .i64 0, .int .u64 0] 24 (0, 0)) := hf.blk (heap_alloc_new w _) (by omega)
theorem Row.lt {w : World} {base g n c : Nat} {xs : List S24} (h : Row w base (.slice (some ⟨g, 0, none⟩) n c) xs) : g < w.heap.size := own_lt h g rfl
theorem Hq.set {w : World} {gs base : Nat} {v : Value} {xs : List S24} (h : Hq w gs base v xs) {p : Addr} (u : Value) (h1 : p.block ≠ gs) (h2 : some p.block ≠ v.ownBlock) : Hq (w.setCell p u) gs base v xs :=
  ⟨⟨blk_far h.1.1 (Ne.symm h1) u, own_setCell h.1.2 h2 u⟩, h.2⟩
theorem take_end {w w1 : World} {gs g c base : Nat} {n : Nat} {d d1 : S24} {L xs ys : List S24} (hL : L.length = n) (h : Hq w gs base (.slice (some ⟨g, 0, none⟩) (n + 1) c) xs) (hs : srt ltB xs = d :: L) (h1 : Hq w1 gs base (.slice (some ⟨g, 0, none⟩) n c) ys) (hp : xs.Perm (d1 :: ys)) (hmin : ∀ y, y ∈ ys → ltB y d1 = false)
    (hf : Fr (w.alloc (.cells #[.int .i64 0, .int .u64 0] 24)) w1 (fun k => k = gs ∨ k = g)) :
    TakeP gs base (.slice (some ⟨g, 0, none⟩) (n + 1) c) (d :: L) w (.returned (.tuple #[dr d1, .bool true])) (((w1.setCell ⟨w.heap.size, 0, none⟩ (.int .i64 d1.f0)).setCell ⟨w.heap.size, 1, none⟩ (.int .u64 d1.f1)).alloc (dob d1)) := by
  have e := srt_min ltO hp hmin
  rw [hs] at e
  injection e with e1 e2
  subst e1
  have l1 := blk_lt h.1.1
  have l2 : g < w.heap.size := h.1.2.lt
  have hb : Below w.heap.size w (w.alloc (.cells #[.int .i64 0, .int .u64 0] 24)) := (Below.refl w.heap.size w).alloc (Nat.le_refl _) _
  have n1 : w.heap.size ≠ gs := by omega
  have n2 : some w.heap.size ≠ (Value.slice (some ⟨g, 0, none⟩) n c).ownBlock := by
    intro e
    have : w.heap.size = g := by simpa [Value.ownBlock] using e
    omega
  have h2 := ((h1.set (p := ⟨w.heap.size, 0, none⟩) (.int .i64 d.f0) n1 n2).set (p := ⟨w.heap.size, 1, none⟩) (.int .u64 d.f1) n1 n2).below ((Below.refl _ _).alloc (Nat.le_refl _) (dob d))
  refine ⟨_, rfl, ⟨ys, h2, e2.symm⟩, rfl, ?_⟩
  have hf1 : Fr w w1 (fun k => k = gs ∨ some k = (Value.slice (some ⟨g, 0, none⟩) (n + 1) c).ownBlock) := (Fr.of_below hb _).trans hf (fun k _ e => by
    rcases e with e | e
    · exact .inl e
    · exact .inr (by rw [e]; rfl))
  have hf2 := hf1.set (p := ⟨w.heap.size, 0, none⟩) (.int .i64 d.f0) (fun e => absurd e (Nat.lt_irrefl _))
  have hf3 := hf2.set (p := ⟨w.heap.size, 1, none⟩) (.int .u64 d.f1) (fun e => absurd e (Nat.lt_irrefl _))
  exact hf3.alloc _
set_option maxRecDepth 100000 in
set_option maxHeartbeats 4000000 in
theorem take_some (gs base : Nat) (v : Value) (d : S24) (L : List S24) (w : World) (h : Qd w gs base v (d :: L)) (hm : L.length ≤ 90000) :
    Calls Try.prog 40 #[.pointer (some ⟨gs, 0, none⟩)] w (TakeP gs base v (d :: L) w) := by
  obtain ⟨xs, hx, hs⟩ := h
  have hn : xs.length = L.length + 1 := by rw [← srt_length (lt := ltB), hs]; rfl
  obtain ⟨A, c, rfl, hA⟩ := hx.1.2.slice
  obtain ⟨g, rfl⟩ := hA.resolve_left (by omega)
  rw [hn] at hx ⊢
  have hz : Aside0 (Below w.heap.size w (w.alloc (.cells #[.int .i64 0, .int .u64 0] 24))) := ⟨(Below.refl w.heap.size w).alloc (Nat.le_refl _) _⟩
  have H := Aside0.mk hx
  have HN := Aside0.mk hn
  have HS := Aside0.mk hs
  have hgs := blk_lt hx.1.1
  have hg := hx.1.2.lt
  have hpos : ((L.length : Int) + 1 == 0) = false := by simp; omega
  clear hx hA hn hs
  go_enter Try.func40, Try.ntmps40
  go_wp2_with (first
    | (go_at_call 39; refine (size_calls gs base _ (d :: L) _ ⟨xs, H.out.below hz.out, HS.out⟩).mono ?_; rintro e w2 ⟨rfl, rfl⟩; rw [List.length_cons])
    | (go_at_call 43; refine (hpop_calls gs g c base xs L.length _ (H.out.below hz.out) HN.out hm).mono ?_; rintro e w1 ⟨d1, ys, rfl, h1, h2, h3, h4⟩; have HH := Aside0.mk h1; have HPM := Aside0.mk h2; have HMN := Aside0.mk h3; have HF := Aside0.mk h4; have HE := Aside0.mk (take_end rfl H.out HS.out h1 h2 h3 h4); have hz1 := take_facts hgs hg h4; have z0 := blk_cell hz1 0; have z1 := blk_cell hz1 1; have z2 := blk_frozen hz1 0; have z3 := blk_frozen hz1 1; have z4 := blk_lt hz1; clear h1 h2 h3 h4 hz1))
  refine bodyPost_ret (v := .tuple #[.agg #[.int .i64 d1.f0, .int .u64 d1.f1], .bool true]) (by simp [results, Try.results40, go_sem, z0, z1, z4]) rfl ?_
  exact HE.out
end Go.Proofs.Ytdkmmfhieapbaaa.Own

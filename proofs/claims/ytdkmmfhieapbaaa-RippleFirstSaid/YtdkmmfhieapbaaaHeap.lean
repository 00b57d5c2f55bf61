/-
  ripple.Sorted and ripple.Run, walked by hand: Sorted is the drops in order; Run is a fold over the deeds.
-/
import Derived.Test.YtdkmmfhieapbaaaWork6
namespace Go.Proofs.Ytdkmmfhieapbaaa.Own
open Go.RowKit Go.Proofs.YtdkmmfhieapbaaaW.PrintWords Go.Proofs.YtdkmmfhieapbaaaW.PrintLast Go.Proofs.Ytdkmmfhieapbaaa.P Go.Proofs.Ytdkmmfhieapbaaa.Plain
set_option linter.unusedVariables false
attribute [local go_sem] q_push q_size q_take qn_push qn_size qn_take

theorem cl_part {xs : List S24} {j : Nat} {p : S24} (h : xs[j]? = some p) : ((cl xs).drop (j * 2)).take 2 = [.int .i64 p.f0, .int .u64 p.f1] := by
  obtain ⟨h1, h2⟩ := cl_get h
  have hj := (List.getElem?_eq_some_iff.1 h).1
  have hl := cl_length xs
  rw [List.drop_eq_getElem_cons (by omega), List.drop_eq_getElem_cons (by omega)]
  simp only [List.take_succ_cons, List.take_zero]
  have e1 := (List.getElem?_eq_some_iff.1 h1).2
  have e2 := (List.getElem?_eq_some_iff.1 h2).2
  simp only [Nat.mul_comm j 2]
  rw [e1, e2]
theorem row_R {w : World} {base : Nat} {v : Value} {xs : List S24} (h : Row w base v xs) (ok : Nat → Prop) (hok : ∀ k, v.ownBlock = some k → ok k) : Kd.R k24 24 w base ok v xs :=
  ⟨hok, cl xs, h, cl_length xs, fun j p hp => by
    show k24.M w base _ p (((cl xs).drop (j * 2)).take 2)
    rw [cl_part hp]
    exact k24_mkM w base _ p⟩

def ripple_Sorted.f (l0 : List S24) : Option (List S24) := if l0.length ≤ 70000 then some (srt ltB l0) else none
def SortP (l : List S24) (w : World) (e : Ending) (w' : World) : Prop := ∃ v, e = .returned v ∧ Row w' w.heap.size v (srt ltB l) ∧ Below w.heap.size w w'
set_option maxRecDepth 100000 in
set_option maxHeartbeats 4000000 in
theorem sorted_calls (A : Option Addr) (c : Nat) (l : List S24) (w : World) (hC : Kd.C k24 w A l.length l) (hm : l.length ≤ 70000) : Calls Try.prog 13 #[.slice A l.length c] w (SortP l w) := by
  have HC := Aside0.mk hC
  clear hC
  go_enter Try.func13, Try.ntmps13
  go_wp2_with fail
  go_at_call 18
  refine (clone_calls A c l _ HC.out (by omega)).mono ?_
  rintro e w1 ⟨v, rfl, hr, hb⟩
  obtain ⟨A', c', rfl, -⟩ := hr.slice
  have HST : Aside0 (St (w1.alloc (.cells #[.slice A' l.length c'] 48)) w1.heap.size w.heap.size (.slice A' l.length c') l) := ⟨⟨heap_alloc_new w1 _, row_below hr ((Below.refl w1.heap.size w1).alloc (Nat.le_refl _) _)⟩⟩
  have HB1 : Aside0 (Below w.heap.size w (w1.alloc (.cells #[.slice A' l.length c'] 48))) := ⟨hb.alloc hb.size _⟩
  have HLT : Aside0 (w.heap.size ≤ w1.heap.size) := ⟨hb.size⟩
  have HVL : Aside0 (∀ k, (Value.slice A' l.length c').ownBlock = some k → w.heap.size ≤ k) := ⟨fun k hk => own_base hr k hk⟩
  clear hr hb
  go_wp2_with (first
    | (go_at_call 19; refine (init_calls w1.heap.size w.heap.size _ l _ HST.out.1 HST.out.ne HST.out.2 (by omega)).mono ?_; rintro e w2 ⟨ys, rfl, h1, h2, h3, h4⟩; have HP2 := Aside0.mk h1; have HH2 := Aside0.mk h2; have HR2 := Aside0.mk h3; have HF2 := Aside0.mk h4; clear h1 h2 h3 h4)
    | (go_at_call 20; refine (drained_calls w1.heap.size w.heap.size _ (srt ltB l) _ ⟨ys, ⟨⟨HF2.out.blk HST.out.1 HST.out.ne, HR2.out⟩, HH2.out⟩, srt_congr ltO HP2.out⟩ (by rw [srt_length]; omega)).mono ?_; rintro e w3 ⟨o, rfl, h1, h2⟩; have HO := Aside0.mk h1; have HF3 := Aside0.mk h2; clear h1 h2))
  go_ret
  unfold SortP
  have hs2 := HF2.out.size
  have hs1 := HB1.out.size
  have b2 := HB1.out.trans (HF2.out.below hs1 (fun i _ e => HVL.out i e.symm))
  refine ⟨o, rfl, own_weaken HO.out b2.size, b2.trans (HF3.out.below b2.size (fun i _ e => ?_))⟩
  rcases e with e | e
  · rw [e]; exact HLT.out
  · exact HVL.out i e.symm
theorem ripple_Sorted.calls (A0 : Option Addr) (c0 : Nat) (l0 : List S24) (r : List S24) (w : World) (hr0 : Kd.C k24 w A0 l0.length l0) (hc0 : l0.length ≤ c0) (h : ripple_Sorted.f l0 = some r) :
    Calls Try.prog 13 #[.slice A0 l0.length c0] w fun e w' => ∃ v0_ : Value, e = .returned v0_ ∧ Kd.R k24 24 w' w.heap.size (fun _ => True) v0_ r ∧ Below w.heap.size w w' := by
  unfold ripple_Sorted.f at h
  by_cases hm : l0.length ≤ 70000
  · rw [if_pos hm] at h
    obtain rfl := Option.some.inj h
    refine (sorted_calls A0 c0 l0 w hr0 hm).mono ?_
    rintro e w' ⟨v, rfl, hr, hb⟩
    exact ⟨v, rfl, row_R hr _ (fun _ _ => trivial), hb⟩
  · rw [if_neg hm] at h
    cases h

/-! ### Run -/
/-- Taken, left in order, vain. -/
abbrev RS := List S24 × List S24 × Int
def stp (s : RS) (x : S43) : RS :=
  if x.f0 = true then (match s.2.1 with | [] => (s.1, [], s.2.2 + 1) | d :: L => (s.1 ++ [d], L, s.2.2)) else (s.1, ins ltB x.f1 s.2.1, s.2.2)
def runL (l : List S43) : RS := l.foldl stp ([], [], 0)
theorem runL_snoc (l : List S43) (x : S43) : runL (l ++ [x]) = stp (runL l) x := by simp [runL, List.foldl_append]
theorem runL_len (l : List S43) : (runL l).1.length + (runL l).2.1.length ≤ l.length ∧ 0 ≤ (runL l).2.2 ∧ (runL l).2.2 ≤ l.length := by
  obtain ⟨m, hm⟩ : ∃ m, m = l.reverse := ⟨_, rfl⟩
  obtain rfl : l = m.reverse := by rw [hm, List.reverse_reverse]
  clear hm
  induction m with
  | nil => exact ⟨Nat.le_refl _, by decide, by decide⟩
  | cons x m ih =>
    rw [List.reverse_cons, runL_snoc, List.length_append, List.length_singleton]
    obtain ⟨h1, h2, h3⟩ := ih
    unfold stp
    split
    · split
      · simp only [List.length_nil] at *; omega
      · next e => rw [e] at h1; simp only [List.length_append, List.length_cons, List.length_nil] at *; omega
    · simp only [ins_length]; omega
theorem take_snoc {α : Type} {l : List α} {k : Nat} {x : α} (h : l[k]? = some x) : l.take (k + 1) = l.take k ++ [x] := by
  obtain ⟨hk, rfl⟩ := List.getElem?_eq_some_iff.mp h
  exact List.take_succ_eq_append_getElem hk
/-- What holds at Run's round. -/
structure RunR (gs : Nat) (w W : World) (o vq : Value) (s : RS) : Prop where
  q : Qd W gs w.heap.size vq s.2.1
  row : Row W w.heap.size o s.1
  ne : ∀ k, o.ownBlock = some k → vq.ownBlock ≠ some k
  fr : Below w.heap.size w W
theorem RunR.lt {gs : Nat} {w W : World} {o vq : Value} {s : RS} (h : RunR gs w W o vq s) : gs < W.heap.size := World.block_lt_of_cell? W _ h.q.hdr
theorem RunR.one {gs : Nat} {w W : World} {o vq : Value} {s : RS} (h : RunR gs w W o vq s) : ∀ k, o.ownBlock = some k → k ≠ gs := by
  intro k hk e
  obtain ⟨cells, hc⟩ := own_typed h.row k hk
  obtain ⟨xs, hx, _⟩ := h.q
  rw [e, hx.1.1] at hc
  injection hc with hc
  injection hc with _ hc
  exact absurd hc (by decide)
theorem RunR.qlow {gs : Nat} {w W : World} {o vq : Value} {s : RS} (h : RunR gs w W o vq s) : ∀ k, vq.ownBlock = some k → w.heap.size ≤ k ∧ k < W.heap.size := by
  intro k hk
  obtain ⟨xs, hx, _⟩ := h.q
  exact ⟨own_base hx.1.2 k hk, own_lt hx.1.2 k hk⟩
theorem RunR.below {gs : Nat} {w W W1 : World} {o vq : Value} {s : RS} (h : RunR gs w W o vq s) (hb : Below W.heap.size W W1) : RunR gs w W1 o vq s :=
  ⟨h.q.below hb, row_below h.row hb, h.ne, h.fr.trans (hb.mono h.fr.size)⟩
/-- The queue has turned. -/
theorem RunR.turn {gs : Nat} {w W W1 : World} {o vq vq1 : Value} {s : RS} {L : List S24} {v : Int} (hgs : w.heap.size ≤ gs) (h : RunR gs w W o vq s) (hq : Qd W1 gs w.heap.size vq1 L)
    (hv : vq1.ownBlock = vq.ownBlock ∨ ∃ g, vq1.ownBlock = some g ∧ W.heap.size ≤ g) (hf : Fr W W1 (fun k => k = gs ∨ some k = vq.ownBlock)) : RunR gs w W1 o vq1 (s.1, L, v) := by
  refine ⟨hq, hf.row h.row (fun k hk e => ?_), fun k hk e => ?_, h.fr.trans (hf.below h.fr.size (fun k _ e => ?_))⟩
  · rcases e with e | e
    · exact h.one k hk e
    · exact h.ne k hk e.symm
  · rcases hv with hv | ⟨g, hv, hg⟩
    · exact h.ne k hk (by rw [← hv]; exact e)
    · have h1 := own_lt h.row k hk
      rw [hv] at e
      injection e with e
      omega
  · rcases e with e | e
    · omega
    · exact (h.qlow k e.symm).1
/-- A drop goes to what is taken. -/
theorem RunR.put {gs : Nat} {w W1 W2 : World} {o o' vq : Value} {s : RS} {d : S24} (hgs : w.heap.size ≤ gs) (h : RunR gs w W1 o vq s)
    (hown : W2.ownsRow w.heap.size 24 2 o' (s.1.length + 1) (cl s.1 ++ [.int .i64 d.f0, .int .u64 d.f1])) (hgrow : (W1.alloc (dob d)).grownBy W2 o.ownBlock) (hat : o'.ownBlock = o.ownBlock ∨ o'.ownBlock = some (W1.heap.size + 1)) :
    RunR gs w W2 o' vq (s.1 ++ [d], s.2.1, s.2.2) := by
  have hb := (Below.refl W1.heap.size W1).alloc (Nat.le_refl _) (dob d)
  have h1 := h.below hb
  have hg : Fr (W1.alloc (dob d)) W2 (fun k => some k = o.ownBlock) := Fr.of_grown hgrow
  refine ⟨?_, ?_, fun k hk e => ?_, h1.fr.trans (hg.below h1.fr.size (fun k _ e => own_base h.row k e.symm))⟩
  · obtain ⟨xs, hx, e⟩ := h1.q
    exact ⟨xs, ⟨⟨hg.blk hx.1.1 (fun e => h1.one gs e.symm rfl), hg.row hx.1.2 (fun k hk e => h1.ne k e.symm hk)⟩, hx.2⟩, e⟩
  · unfold Row
    rw [List.length_append, cl_append]
    exact hown
  · rcases hat with hat | hat
    · exact h.ne k (by rw [← hat]; exact hk) e
    · rw [hat] at hk
      injection hk with hk
      have := (h.qlow k e).2
      omega
def RunP (l : List S43) (w : World) (e : Ending) (w' : World) : Prop := ∃ v1 v2, e = .returned (.tuple #[v1, v2, .int .i64 (runL l).2.2]) ∧ Row w' w.heap.size v1 (runL l).1 ∧ Row w' w.heap.size v2 (runL l).2.1 ∧ (∀ k, v1.ownBlock = some k → v2.ownBlock ≠ some k) ∧ Below w.heap.size w w'
set_option maxRecDepth 100000 in
set_option maxHeartbeats 8000000 in
theorem run_calls (A : Option Addr) (c : Nat) (l : List S43) (w : World) (hC : Kd.C k43 w A l.length l) (hm : l.length ≤ 60000) : Calls Try.prog 15 #[.slice A l.length c] w (RunP l w) := by
  have HC := Aside0.mk hC
  clear hC
  obtain ⟨i0, hi, hz0, hz1, hz2⟩ := info_parts info24
  have hgs : w.heap.size ≤ w.heap.size := Nat.le_refl _
  have H0 : Aside0 (RunR w.heap.size w (w.alloc (.cells #[.slice none 0 0] 48)) (.slice none 0 0) (.slice none 0 0) ([], [], 0)) :=
    ⟨⟨⟨[], ⟨⟨heap_alloc_new w _, World.ownsRow_nil _ _ _ _⟩, heap_far [] (by simp)⟩, rfl⟩, World.ownsRow_nil _ _ _ _, (fun k hk => by cases hk), (Below.refl _ _).alloc (Nat.le_refl _) _⟩⟩
  go_enter Try.func15, Try.ntmps15
  go_wp2
  go_loopw [6, 7, 17] (fun v6 v7 v17 W => ∃ (k : Nat) (vq : Value) (s : RS), k ≤ l.length ∧ 0 ≤ s.2.2 ∧ s.2.2 ≤ 60000 ∧ v17 = .int .i64 k ∧ v7 = .int .i64 s.2.2 ∧ Aside0 (s = runL (l.take k)) ∧ Aside0 (RunR w.heap.size w W v6 vq s)) (fun _ _ v17 _ => l.length - (intOf v17).toNat)
  case atStart => exact ⟨0, .slice none 0 0, ([], [], 0), Nat.zero_le _, by decide, by decide, rfl, rfl, ⟨rfl⟩, H0⟩
  case round => as_aux_lemma =>
    clear H0
    obtain ⟨k, vq, s, hk, hv0, hv1, rfl, rfl, HS, HR⟩ := hrel
    by_cases hlt : k < l.length
    · obtain ⟨x, hx⟩ : ∃ x, l[k]? = some x := ⟨_, List.getElem?_eq_getElem hlt⟩
      have hrd : rd_T43 l (k : Int) = x := by unfold rd_T43; rw [Int.toNat_natCast, List.getD_eq_getElem?_getD, hx]; rfl
      obtain ⟨ad, hA, x0, x1, x2⟩ := at_T43 (Kd.C_below HC.out HR.out.fr) (k : Int) (by omega) (by omega)
      rw [hrd, Int.toNat_natCast] at x0 x1 x2
      cases hA
      have HSN := Aside0.mk (by rw [take_snoc hx, runL_snoc, ← HS.out] : runL (l.take (k + 1)) = stp s x)
      have hln := runL_len (l.take (k + 1))
      have hlen := runL_len (l.take k)
      rw [← HS.out, List.length_take] at hlen
      rw [HSN.out, List.length_take] at hln
      have HLN := Aside0.mk hln
      have HLEN := Aside0.mk hlen
      clear hrd hx hln hlen
      cases hb : x.f0 with
      | false =>
        rw [hb] at x0
        have HST : Aside0 (stp s x = (s.1, ins ltB x.f1 s.2.1, s.2.2)) := ⟨by unfold stp; rw [hb]; rfl⟩
        clear hb
        have HRx : Aside0 (RunR w.heap.size w (wr.alloc (.cells #[.bool false, .int .i64 x.f1.f0, .int .u64 x.f1.f1] 43)) u6 vq s) := ⟨HR.out.below ((Below.refl _ _).alloc (Nat.le_refl _) _)⟩
        go_wp2_with (go_at_call 38; refine (push_calls w.heap.size w.heap.size vq s.2.1 x.f1 _ HRx.out.q HRx.out.fr.size (by have := HLEN.out.1; omega)).mono ?_; rintro e w1 ⟨vq1, rfl, h1, h2, h3⟩; have HR1 := Aside0.mk (HRx.out.turn (v := s.2.2) hgs h1 h2 h3); clear h1 h2 h3)
        go_roundw
        case rel => exact ⟨k + 1, vq1, (s.1, ins ltB x.f1 s.2.1, s.2.2), hlt, hv0, hv1, by go_num, rfl, ⟨by rw [HSN.out, HST.out]⟩, HR1⟩
        case measure => simp [intOf]; omega
      | true =>
        rw [hb] at x0
        have HRx : Aside0 (RunR w.heap.size w (wr.alloc (.cells #[.bool true, .int .i64 x.f1.f0, .int .u64 x.f1.f1] 43)) u6 vq s) := ⟨HR.out.below ((Below.refl _ _).alloc (Nat.le_refl _) _)⟩
        obtain ⟨s1, s2, s3⟩ := s
        cases s2 with
        | nil =>
          have HST : Aside0 (stp (s1, [], s3) x = (s1, [], s3 + 1)) := ⟨by unfold stp; rw [hb]; rfl⟩
          clear hb
          go_wp2_with (go_at_call 40; refine (take_none w.heap.size w.heap.size vq _ HRx.out.q).mono ?_; rintro e w1 ⟨vq1, rfl, h1, h2, h3⟩; have HR1 := Aside0.mk (HRx.out.turn (v := s3 + 1) hgs h1 (.inl h2) h3); clear h1 h2 h3)
          go_roundw
          case rel => exact ⟨k + 1, vq1, (s1, [], s3 + 1), hlt, by have := hv0; simp at this ⊢; omega, by have := HLN.out; rw [HST.out] at this; simp at this ⊢; omega, by go_num, rfl, ⟨by rw [HSN.out, HST.out]⟩, ⟨HR1.out.below ((Below.refl _ _).alloc (Nat.le_refl _) _)⟩⟩
          case measure => simp [intOf]; omega
        | cons d L =>
          have HST : Aside0 (stp (s1, d :: L, s3) x = (s1 ++ [d], L, s3)) := ⟨by unfold stp; rw [hb]; rfl⟩
          clear hb
          go_wp2_with (first
            | (go_at_call 40; refine (take_some w.heap.size w.heap.size vq d L _ HRx.out.q (by have := HLEN.out.1; simp at this; omega)).mono ?_; rintro e w1 ⟨vq1, rfl, h1, h2, h3⟩; have HR1 := Aside0.mk (HRx.out.turn (v := s3) hgs h1 (.inl h2) h3); clear h1 h2 h3)
            | (at_builtin; refine hold ?_))
          refine ⟨?_⟩
          have hbd := (Below.refl w1.heap.size w1).alloc (Nat.le_refl _) (dob d)
          have hdd := (Below.refl (w1.alloc (dob d)).heap.size (w1.alloc (dob d))).alloc (Nat.le_refl _) (dob d)
          have hrow := ((HR1.out.below hbd).below hdd).row
          refine wpList_append_own_at _ rfl _ _ 25 rfl w.heap.size 24 i0 _ 2 16 Try.underlying25 hi hz0 hz1 hz2 rfl (by decide) _ s1.length (cl s1) rfl hrow ⟨w1.heap.size + 1, 0, none⟩ 1 1 [.int .i64 d.f0, .int .u64 d.f1] rfl rfl (World.news_of_block (two_new w1 d)) (two_one d) (Nat.le_trans (show s1.length + 1 ≤ 100001 by have := HLEN.out.1; simp at this; omega) (by decide)) (by have := HLEN.out.1; simp at this; omega) ((HR1.out.below hbd).below hdd).fr.size ?_
          intro v' w2 hown' hgrow _ hat
          have HR2 := Aside0.mk ((HR1.out.below hbd).put hgs hown' hgrow (by rw [show (w1.alloc (dob d)).heap.size + 1 = ((w1.alloc (dob d)).alloc (dob d)).heap.size by simp]; exact hat))
          clear hown' hgrow hbd hdd hrow hat
          go_wp2
          go_roundw
          case rel => exact ⟨k + 1, vq1, (s1 ++ [d], L, s3), hlt, hv0, hv1, by go_num, rfl, ⟨by rw [HSN.out, HST.out]⟩, HR2⟩
          case measure => simp [intOf]; omega
    · obtain rfl : k = l.length := by omega
      go_wp2_with (go_at_call 20; refine (drained_calls w.heap.size w.heap.size vq s.2.1 _ HR.out.q (by have := (runL_len (l.take l.length)).1; rw [← HS.out, List.length_take] at this; omega)).mono ?_; rintro e w1 ⟨o, rfl, h1, h2⟩; have HO := Aside0.mk h1; have HF := Aside0.mk h2; clear h1 h2)
      go_ret3
      unfold RunP
      have hs : s = runL l := by rw [HS.out, List.take_length]
      subst hs
      refine ⟨_, o, rfl, HF.out.row HR.out.row (fun k hk e => ?_), own_weaken HO.out HR.out.fr.size, fun k hk e => ?_, HR.out.fr.trans (HF.out.below HR.out.fr.size (fun k _ e => ?_))⟩
      · rcases e with e | e
        · exact HR.out.one k hk e
        · exact HR.out.ne k hk e.symm
      · have h1 := own_lt HR.out.row k hk
        have h2 := own_base HO.out k e
        omega
      · rcases e with e | e
        · omega
        · exact (HR.out.qlow k e.symm).1
def ripple_Run.f (l0 : List S43) : Option (List S24 × List S24 × Int) := if l0.length ≤ 60000 then some (runL l0) else none
theorem ripple_Run.calls (A0 : Option Addr) (c0 : Nat) (l0 : List S43) (r1 r2 : List S24) (r3 : Int) (w : World) (hr0 : Kd.C k43 w A0 l0.length l0) (hc0 : l0.length ≤ c0) (h : ripple_Run.f l0 = some (r1, r2, r3)) :
    Calls Try.prog 15 #[.slice A0 l0.length c0] w fun e w' => ∃ v0_ v1_ : Value, e = .returned (.tuple #[v0_, v1_, .int .i64 r3]) ∧ Kd.R k24 24 w' w.heap.size (fun k_ => some k_ ≠ (v1_ : Value).ownBlock) v0_ r1 ∧ Kd.R k24 24 w' w.heap.size (fun k_ => some k_ ≠ (v0_ : Value).ownBlock) v1_ r2 ∧ Below w.heap.size w w' := by
  unfold ripple_Run.f at h
  by_cases hm : l0.length ≤ 60000
  · rw [if_pos hm] at h
    have e := Option.some.inj h
    refine (run_calls A0 c0 l0 w hr0 hm).mono ?_
    rintro e' w' ⟨v1, v2, rfl, h1, h2, h3, hb⟩
    rw [e] at h1 h2 ⊢
    exact ⟨v1, v2, rfl, row_R h1 _ (fun k hk e => h3 k hk e.symm), row_R h2 _ (fun k hk e => h3 k e.symm hk), hb⟩
  · rw [if_neg hm] at h
    cases h
end Go.Proofs.Ytdkmmfhieapbaaa.Own

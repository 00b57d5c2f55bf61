/-
  The reference's Run over deeds, walked by hand: what is taken, what is left in order, how many are vain.
-/
import Derived.Test.YtdkmmfhieapbaaaCalls
import Derived.Deep.RegionLaw
namespace Go.Proofs.Ytdkmmfhieapbaaa.Own
open Go.RowKit Go.Proofs.YtdkmmfhieapbaaaW.PrintWords Go.Proofs.YtdkmmfhieapbaaaW.PrintLast Go.Proofs.Ytdkmmfhieapbaaa.P Go.Proofs.Ytdkmmfhieapbaaa.Plain Go.Proofs.Ytdkmmfhieapbaaa.Pure
set_option linter.unusedVariables false

theorem add_block (ad : Addr) (j : Nat) : (ad.add j).block = ad.block := by unfold Addr.add; split <;> rfl
/-- A row that is read hangs on its block alone. -/
theorem C_move {w w1 : World} {A : Option Addr} {n : Nat} {xs : List S24} (h : Kd.C k24 w A n xs) (hb : ∀ ad, A = some ad → w1.heap[ad.block]? = w.heap[ad.block]?) : Kd.C k24 w1 A n xs := by
  refine ⟨h.1, h.2.1, fun hn => ?_⟩
  obtain ⟨ad, e, hc⟩ := h.2.2 hn
  refine ⟨ad, e, fun j p hj => ?_⟩
  obtain ⟨cs, h1, h2, h3⟩ := hc j p hj
  refine ⟨cs, h1, ?_, fun i u hu => ?_⟩
  · obtain rfl := k24_open h2
    exact k24_mk w1 p
  · rw [World.cell?_of_block (w := w) (by rw [add_block]; exact hb ad e)]
    exact h3 i u hu
/-- What holds at the reference's round: r lies in block g. -/
structure RfR (g : Nat) (w W : World) (vt : Value) (A : Option Addr) (c : Nat) (s : RS) : Prop where
  blk : W.heap[g]? = some (.cells #[vt, .slice A s.2.1.length c, .int .i64 s.2.2] 39 (0, 0))
  row : Row W w.heap.size vt s.1
  left : Kd.C k24 W A s.2.1.length s.2.1
  room : s.2.1.length ≤ c
  ne : ∀ ad, A = some ad → w.heap.size < ad.block ∧ ad.block < W.heap.size ∧ ad.block ≠ g ∧ vt.ownBlock ≠ some ad.block
  res : W.heap[w.heap.size]? = some (.cells #[.slice none 0 0, .slice none 0 0, .int .i64 0] 39 (0, 0))
  fr : Below w.heap.size w W
namespace RfR
variable {g : Nat} {w W W1 : World} {vt vt' : Value} {A B : Option Addr} {c d : Nat} {s : RS}
theorem one (h : RfR g w W vt A c s) : ∀ k, vt.ownBlock = some k → k ≠ g := by
  intro k hk e
  obtain ⟨cells, hc⟩ := own_typed h.row k hk
  rw [e, h.blk] at hc
  injection hc with hc
  injection hc with _ hc
  exact absurd hc (by decide)
theorem below (h : RfR g w W vt A c s) (hb : Below W.heap.size W W1) : RfR g w W1 vt A c s where
  blk := blk_below h.blk hb
  row := row_below h.row hb
  left := Kd.C_below h.left hb
  room := h.room
  ne := fun ad e => by obtain ⟨h1, h2, h3⟩ := h.ne ad e; exact ⟨h1, Nat.lt_of_lt_of_le h2 hb.size, h3⟩
  res := blk_below h.res hb
  fr := h.fr.trans (hb.mono h.fr.size)
/-- The number of vain deeds is stored. -/
theorem vain (hg : w.heap.size < g) (h : RfR g w W vt A c s) (v : Int) : RfR g w (W.setCell ⟨g, 2, none⟩ (.int .i64 v)) vt A c (s.1, s.2.1, v) where
  blk := blk_set h.blk 2 _
  row := own_setCell h.row (fun e => h.one g e.symm rfl) _
  left := C_move h.left (fun ad e => Below.heap_setCell _ _ _ _ (h.ne ad e).2.2.1)
  room := h.room
  ne := fun ad e => by have := h.ne ad e; simpa [World.setCell] using this
  res := blk_far h.res (p := ⟨g, 2, none⟩) (Nat.ne_of_lt hg) _
  fr := h.fr.setCell (p := ⟨g, 2, none⟩) (Nat.le_of_lt hg) _
/-- What is left is another row, that is new. -/
theorem turn (hg : w.heap.size < g) (h : RfR g w W vt A c s) (hb : Below W.heap.size W W1) {L : List S24} (hC : Kd.C k24 W1 B L.length L) (hl : L.length ≤ d) (hn : ∀ ad, B = some ad → W.heap.size ≤ ad.block ∧ ad.block < W1.heap.size) :
    RfR g w (W1.setCell ⟨g, 1, none⟩ (.slice B L.length d)) vt B d (s.1, L, s.2.2) := by
  have h1 := h.below hb
  have hlt := blk_lt h.blk
  refine ⟨blk_set h1.blk 1 _, own_setCell h1.row (fun e => h1.one g e.symm rfl) _, C_move hC (fun ad e => Below.heap_setCell _ _ _ _ ?_), hl, fun ad e => ?_, blk_far h1.res (p := ⟨g, 1, none⟩) (Nat.ne_of_lt hg) _, h1.fr.setCell (p := ⟨g, 1, none⟩) (Nat.le_of_lt hg) _⟩
  · show ad.block ≠ g
    have := (hn ad e).1
    omega
  · obtain ⟨h2, h3⟩ := hn ad e
    have hs := blk_lt h.res
    refine ⟨by omega, by simpa [World.setCell] using h3, by omega, fun e2 => ?_⟩
    have := own_lt h.row _ e2
    omega
/-- One is taken. -/
theorem take (hg : w.heap.size < g) {a L : List S24} {v : Int} {x : S24} (h : RfR g w W vt A c (a, x :: L, v)) (hown : W1.ownsRow w.heap.size 24 2 vt' (a.length + 1) (cl a ++ [.int .i64 x.f0, .int .u64 x.f1]))
    (hgrow : ((W.alloc (dob x)).drew).grownBy W1 vt.ownBlock) (hat : vt'.ownBlock = vt.ownBlock ∨ vt'.ownBlock = some (W.heap.size + 1)) :
    RfR g w ((W1.setCell ⟨g, 0, none⟩ vt').setCell ⟨g, 1, none⟩ (.slice (if c = 1 then A else A.map (·.add (1 * 2))) L.length (c - 1))) vt' (if c = 1 then A else A.map (·.add (1 * 2))) (c - 1) (a ++ [x], L, v) := by
  have hb : Below W.heap.size W (W.alloc (dob x)).drew := ((Below.refl W.heap.size W).alloc (Nat.le_refl _) (dob x)).drew
  have h1 := h.below hb
  have hgr : Fr (W.alloc (dob x)).drew W1 (fun k => some k = vt.ownBlock) := Fr.of_grown hgrow
  have hlt := blk_lt h.blk
  have hbg : W1.heap[g]? = some (.cells #[vt, .slice A (L.length + 1) c, .int .i64 v] 39 (0, 0)) := hgr.blk h1.blk (fun e => h1.one g e.symm rfl)
  have hvg : ∀ k, vt'.ownBlock = some k → k ≠ g := by
    intro k hk
    rcases hat with e | e
    · exact h.one k (by rw [← e]; exact hk)
    · rw [e] at hk
      injection hk with hk
      omega
  have hblock : ∀ ad, (if c = 1 then A else A.map (·.add (1 * 2))) = some ad → ∃ ad0, A = some ad0 ∧ ad.block = ad0.block := by
    intro ad e
    by_cases hc1 : c = 1
    · rw [if_pos hc1] at e
      exact ⟨ad, e, rfl⟩
    · rw [if_neg hc1] at e
      cases A with
      | none => cases e
      | some ad0 =>
        injection e with e
        exact ⟨ad0, rfl, by rw [← e, add_block]⟩
  have hd := Kd.C_drop (m := 1) h1.left (by simp) h1.room
  refine ⟨blk_set (blk_set hbg 0 _) 1 _, ?_, ?_, ?_, fun ad e => ?_, ?_, ?_⟩
  · unfold Row
    rw [List.length_append, cl_append]
    exact own_setCell (own_setCell hown (fun e => hvg g e.symm rfl) _) (fun e => hvg g e.symm rfl) _
  · refine C_move hd (fun ad e => ?_)
    obtain ⟨ad0, e0, eb⟩ := hblock ad e
    obtain ⟨n1, n2, n3, n4⟩ := h.ne ad0 e0
    rw [eb, Below.heap_setCell _ _ _ _ n3, Below.heap_setCell _ _ _ _ n3]
    exact hgr.block _ (Nat.lt_of_lt_of_le n2 hb.size) (fun e => n4 e.symm)
  · have := h.room
    simp only [List.length_cons] at this
    show L.length ≤ c - 1
    omega
  · obtain ⟨ad0, e0, eb⟩ := hblock ad e
    obtain ⟨n1, n2, n3, n4⟩ := h.ne ad0 e0
    have hs : W.heap.size ≤ W1.heap.size := Nat.le_trans hb.size hgr.size
    rw [eb]
    refine ⟨n1, by simp [World.setCell]; omega, n3, fun e2 => ?_⟩
    rcases hat with e | e
    · exact n4 (by rw [← e]; exact e2)
    · rw [e] at e2
      injection e2 with e2
      omega
  · refine blk_far (p := ⟨g, 1, none⟩) (blk_far (p := ⟨g, 0, none⟩) (hgr.blk h1.res (fun e => ?_)) (Nat.ne_of_lt hg) _) (Nat.ne_of_lt hg) _
    obtain ⟨cells, hc⟩ := own_typed h.row _ e.symm
    rw [h.res] at hc
    injection hc with hc
    injection hc with _ hc
    exact absurd hc (by decide)
  · exact ((h1.fr.trans (hgr.below h1.fr.size (fun k _ e => own_base h.row k e.symm))).setCell (p := ⟨g, 0, none⟩) (Nat.le_of_lt hg) _).setCell (p := ⟨g, 1, none⟩) (Nat.le_of_lt hg) _
end RfR

/-- A row of the call's own comes back in order. -/
theorem with_at (A : Option Addr) (c : Nat) (l : List S24) (x : S24) (w : World) (hC : Kd.C k24 w A l.length l) (hc : l.length ≤ c) (hm : l.length ≤ 60000) (ho : Plain.Ord ltB l) :
    Calls Try.prog 17 #[.slice A l.length c, dr x] w fun e w' => ∃ B d, e = .returned (.slice B (l.length + 1) d) ∧ l.length + 1 ≤ d ∧ Kd.C k24 w' B (l.length + 1) (ins ltB x l) ∧ (∀ ad, B = some ad → w.heap.size ≤ ad.block ∧ ad.block < w'.heap.size) ∧ Below w.heap.size w w' := by
  refine (downpourref14_With.calls _ A c l x.f0 x.f1 _ w hC hc (with_eq x l ho (by omega) _ (Nat.le_refl _))).mono ?_
  rintro e w' ⟨v, rfl, hr, hb⟩
  obtain ⟨inner, hown⟩ := Kd.R_own hr
  obtain ⟨B, d, rfl, hl, hC'⟩ := Kd.R_reads hr
  rw [ins_length] at hl hC' hown ⊢
  refine ⟨B, d, rfl, hl, hC', fun ad e => ?_, hb⟩
  subst e
  exact ⟨own_base hown ad.block rfl, own_lt hown ad.block rfl⟩

theorem stp_ord {s : RS} (h : Plain.Ord ltB s.2.1) (x : S43) : Plain.Ord ltB (stp s x).2.1 := by
  unfold stp
  split
  · split
    · exact List.Pairwise.nil
    · next d L e =>
      rw [e] at h
      unfold Plain.Ord at h
      rw [List.pairwise_cons] at h
      exact h.2
  · exact ins_ord ltO _ h
theorem foldl_ord (y : List S43) {s : RS} (h : Plain.Ord ltB s.2.1) : Plain.Ord ltB (y.foldl stp s).2.1 := by
  induction y generalizing s with
  | nil => exact h
  | cons x y ih => exact ih (stp_ord h x)
theorem run_ord (y : List S43) : Plain.Ord ltB (runL y).2.1 := foldl_ord y (s := ([], [], 0)) List.Pairwise.nil
set_option maxRecDepth 100000 in
set_option maxHeartbeats 8000000 in
theorem refRun_calls (A : Option Addr) (c : Nat) (l : List S43) (w : World) (hC : Kd.C k43 w A l.length l) (hm : l.length ≤ 60000) :
    Calls Try.prog 16 #[.slice A l.length c] w fun e w' => ∃ vt B d, e = .returned (.agg #[vt, .slice B (runL l).2.1.length d, .int .i64 (runL l).2.2]) ∧ Row w' w.heap.size vt (runL l).1 ∧ Kd.C k24 w' B (runL l).2.1.length (runL l).2.1 ∧ (runL l).2.1.length ≤ d ∧ Below w.heap.size w w' := by
  have HC := Aside0.mk hC
  clear hC
  obtain ⟨i0, hi, hz0, hz1, hz2⟩ := info_parts info24
  have hg : w.heap.size < w.heap.size + 1 := Nat.lt_succ_self _
  have H0 : Aside0 (RfR (w.heap.size + 1) w ((w.alloc (.cells #[.slice none 0 0, .slice none 0 0, .int .i64 0] 39)).alloc (.cells #[.slice none 0 0, .slice none 0 0, .int .i64 0] 39)) (.slice none 0 0) none 0 ([], [], 0)) := ⟨by
    refine ⟨?_, World.ownsRow_nil _ _ _ _, ⟨rfl, by decide, fun h => absurd h (by decide)⟩, Nat.le_refl _, (fun ad e => by cases e), blk_alloc (blk_new w _) _, ((Below.refl _ _).alloc (Nat.le_refl _) _).alloc (by simp) _⟩
    have := blk_new (w.alloc (.cells #[.slice none 0 0, .slice none 0 0, .int .i64 0] 39)) (.cells #[.slice none 0 0, .slice none 0 0, .int .i64 0] 39)
    rwa [World.size_alloc] at this⟩
  obtain ⟨g, hgg⟩ : ∃ g, w.heap.size + 1 = g := ⟨_, rfl⟩
  rw [hgg] at hg H0
  have HGG := Aside0.mk hgg
  clear hgg
  go_enter Try.func16, Try.ntmps16
  go_wp2
  rw [HGG.out]
  go_loopw [9] (fun v9 W => ∃ (k : Nat) (s : RS) (vt : Value) (B : Option Addr) (d : Nat), k ≤ l.length ∧ v9 = .int .i64 k ∧ Aside0 (s = runL (l.take k)) ∧ Aside0 (RfR g w W vt B d s)) (fun v9 _ => l.length - (intOf v9).toNat)
  case atStart => exact ⟨0, ([], [], 0), .slice none 0 0, none, 0, Nat.zero_le _, rfl, ⟨rfl⟩, H0⟩
  case round => as_aux_lemma =>
    clear H0
    obtain ⟨k, s, vt, B, d, hk, rfl, HS, HR⟩ := hrel
    by_cases hlt : k < l.length
    · obtain ⟨x, hx⟩ : ∃ x, l[k]? = some x := ⟨_, List.getElem?_eq_getElem hlt⟩
      have hrd : rd_T43 l (k : Int) = x := by unfold rd_T43; rw [Int.toNat_natCast, List.getD_eq_getElem?_getD, hx]; rfl
      obtain ⟨ad, hA, x0, x1, x2⟩ := at_T43 (Kd.C_below HC.out HR.out.fr) (k : Int) (by omega) (by omega)
      rw [hrd, Int.toNat_natCast] at x0 x1 x2
      cases hA
      have HSN := Aside0.mk (by rw [take_snoc hx, runL_snoc, ← HS.out] : runL (l.take (k + 1)) = stp s x)
      have hln := runL_len (l.take (k + 1))
      have hlen := runL_len (l.take k)
      have hord := run_ord (l.take k)
      rw [← HS.out] at hord
      rw [← HS.out, List.length_take] at hlen
      rw [HSN.out, List.length_take] at hln
      have HLN := Aside0.mk hln
      have HLEN := Aside0.mk hlen
      have HORD := Aside0.mk hord
      clear hrd hx hln hlen hord
      cases hb : x.f0 with
      | false =>
        rw [hb] at x0
        have HST : Aside0 (stp s x = (s.1, ins ltB x.f1 s.2.1, s.2.2)) := ⟨by unfold stp; rw [hb]; rfl⟩
        clear hb
        have HRx : Aside0 (RfR g w (wr.alloc (.cells #[.bool false, .int .i64 x.f1.f0, .int .u64 x.f1.f1] 43)) vt B d s) := ⟨HR.out.below ((Below.refl _ _).alloc (Nat.le_refl _) _)⟩
        have q0 := blk_cell HRx.out.blk 0
        have q1 := blk_cell HRx.out.blk 1
        have q2 := blk_cell HRx.out.blk 2
        go_wp2_with (go_at_call 17; refine (with_at B d s.2.1 x.f1 _ HRx.out.left HRx.out.room (by have := HLEN.out.1; omega) HORD.out).mono ?_; rintro e w1 ⟨B1, d1, rfl, h1, h2, h3, h4⟩; have hq := (HRx.out.below h4).blk; have HR1 := Aside0.mk (HRx.out.turn (L := ins ltB x.f1 s.2.1) (B := B1) (d := d1) hg h4 (by rw [ins_length]; exact h2) (by rw [ins_length]; exact h1) h3); have p0 := blk_cell hq 1; have p1 := blk_frozen hq 1; clear h1 h2 h3 h4 hq q0 q1 q2)
        rw [show s.2.1.length + 1 = (ins ltB x.f1 s.2.1).length by rw [ins_length]]
        go_roundw
        case rel => exact ⟨k + 1, (s.1, ins ltB x.f1 s.2.1, s.2.2), vt, B1, d1, hlt, by go_num, ⟨by rw [HSN.out, HST.out]⟩, HR1⟩
        case measure => simp [intOf]; omega
      | true =>
        rw [hb] at x0
        have HRx : Aside0 (RfR g w (wr.alloc (.cells #[.bool true, .int .i64 x.f1.f0, .int .u64 x.f1.f1] 43)) vt B d s) := ⟨HR.out.below ((Below.refl _ _).alloc (Nat.le_refl _) _)⟩
        obtain ⟨s1, s2, s3⟩ := s
        cases s2 with
        | nil =>
          have HST : Aside0 (stp (s1, [], s3) x = (s1, [], s3 + 1)) := ⟨by unfold stp; rw [hb]; rfl⟩
          clear hb
          have q0 := blk_cell HRx.out.blk 0
          have q1 := blk_cell HRx.out.blk 1
          have q2 := blk_cell HRx.out.blk 2
          have q3 := blk_frozen HRx.out.blk 2
          have hv0 : 0 ≤ s3 := HLEN.out.2.1
          have hv1 : s3 ≤ 60000 := by have := HLEN.out.2.2; simp at this; omega
          have HR1 := Aside0.mk (HRx.out.vain hg (s3 + 1))
          go_wp2
          go_roundw
          case rel => exact ⟨k + 1, (s1, [], s3 + 1), vt, B, d, hlt, by go_num, ⟨by rw [HSN.out, HST.out]⟩, HR1⟩
          case measure => simp [intOf]; omega
        | cons e L =>
          have HST : Aside0 (stp (s1, e :: L, s3) x = (s1 ++ [e], L, s3)) := ⟨by unfold stp; rw [hb]; rfl⟩
          clear hb
          have q0 := blk_cell HRx.out.blk 0
          have q1 := blk_cell HRx.out.blk 1
          have q2 := blk_cell HRx.out.blk 2
          go_upto_region 8 with (fail)
          clear x0 x1 x2 q0 q1 q2
          generalize wr.alloc (.cells #[.bool true, .int .i64 x.f1.f0, .int .u64 x.f1.f1] 43) = wx at *
          have hbd := (Below.refl wx.heap.size wx).alloc (Nat.le_refl _) (dob e)
          have q0 : wx.cell? ⟨g, 0, none⟩ = some vt := blk_cell HRx.out.blk 0
          have q1 : wx.cell? ⟨g, 1, none⟩ = some (.slice B (L.length + 1) d) := blk_cell HRx.out.blk 1
          have r0 : (wx.alloc (.cells #[.int .i64 e.f0, .int .u64 e.f1] 24)).cell? ⟨g, 0, none⟩ = some vt := blk_cell (blk_below HRx.out.blk hbd) 0
          have r1 : (wx.alloc (.cells #[.int .i64 e.f0, .int .u64 e.f1] 24)).cell? ⟨g, 1, none⟩ = some (.slice B (L.length + 1) d) := blk_cell (blk_below HRx.out.blk hbd) 1
          obtain ⟨ad, hB, y0, y1⟩ := at_T24 HRx.out.left 0 (by omega) (by simp)
          subst hB
          rw [show rd_T24 (e :: L) 0 = e from rfl] at y0 y1
          rw [show ((0 : Int)).toNat = 0 from rfl, show 0 * 2 = 0 from rfl, Addr.add_zero'] at y0
          rw [show ((0 : Int)).toNat = 0 from rfl, show 0 * 2 = 0 from rfl, Addr.add_zero'] at y1
          have yb := (HRx.out.ne ad rfl).2.1
          have z0 : (wx.alloc (.cells #[.int .i64 e.f0, .int .u64 e.f1] 24)).cell? ad = some (.int .i64 e.f0) := (hbd.cell yb).trans y0
          have z1 : (wx.alloc (.cells #[.int .i64 e.f0, .int .u64 e.f1] 24)).cell? ⟨ad.block, ad.off + 1, none⟩ = some (.int .u64 e.f1) := (hbd.cell (p := ⟨ad.block, ad.off + 1, none⟩) yb).trans y1
          have i1 : (0 : Int) < (L.length : Int) + 1 := by omega
          have hsl : s1.length ≤ 60000 := by have := HLEN.out.1; simp at this; omega
          have HOWN : Aside0 (((wx.alloc (dob e)).drew).ownsRow w.heap.size 24 2 vt s1.length (cl s1)) := ⟨(HRx.out.below hbd).row⟩
          have HNEWS := Aside0.mk (World.news_of_block (show ((wx.alloc (dob e)).drew).heap[wx.heap.size]? = _ from heap_alloc_new wx (dob e)))
          have HBS := Aside0.mk (show w.heap.size ≤ ((wx.alloc (dob e)).drew).heap.size from (HRx.out.below hbd).fr.size)
          have HSZ : Aside0 (((wx.alloc (dob e)).drew).heap.size = wx.heap.size + 1) := ⟨by simp⟩
          clear yb
          have hcut := cut_from (P := Try.prog) 25 24 .i64 Try.underlying25 hi 2 hz1 (some ad) (L.length + 1) d 1 (by omega) (by omega)
          obtain ⟨A2, hA2⟩ : ∃ A2 : Option Addr, A2 = (if d = 1 then some ad else (some ad).map (·.add (1 * 2))) := ⟨_, rfl⟩
          rw [show (1 : Int).toNat = 1 from rfl, ← hA2, Nat.add_sub_cancel] at hcut
          have HA2 := Aside0.mk hA2
          clear hA2
          go_region_law ((refine step_append_lies _ (by rfl) _ _ _ (by rfl) w.heap.size 24 i0 _ 2 16 Try.underlying25 hi hz0 hz1 hz2 rfl (by decide) vt s1.length (cl s1) (by rfl) HOWN.out ⟨wx.heap.size, 0, none⟩ 1 1 [.int .i64 e.f0, .int .u64 e.f1] (by rfl) rfl HNEWS.out (two_one e) (by decide) (Nat.le_trans (show s1.length + 1 ≤ 100001 by omega) (by decide)) (by omega) HBS.out (wx.heap.size + 1) HSZ.out ?_; intro g1 cap w1 hown1 hgrow hat hlt1; have hgr := (Fr.of_grown hgrow).blk ((HRx.out.below hbd).blk) (fun e => (HRx.out.one _ e.symm rfl)); have p0 := blk_cell hgr 0; have p1 := blk_frozen hgr 0; have p2 := blk_cell hgr 1; have p3 := blk_frozen hgr 1))
          all_goals
            have hRT := fun (h : (Value.slice (some ⟨g1, 0, none⟩) (s1.length + 1) cap).ownBlock = vt.ownBlock ∨ (Value.slice (some ⟨g1, 0, none⟩) (s1.length + 1) cap).ownBlock = some (wx.heap.size + 1)) => HRx.out.take hg hown1 hgrow h
            rw [← HA2.out] at hRT
            have HR2 := Aside0.mk (hRT (by rcases hat with e | e; exact .inl e.symm; exact .inr (by rw [e]; rfl)))
            clear hRT hown1 hgrow hat hlt1 hgr
            go_wp2
            go_roundw
            case rel => exact ⟨k + 1, (s1 ++ [e], L, s3), _, A2, d - 1, hlt, by go_num, ⟨by rw [HSN.out, HST.out]⟩, HR2⟩
            case measure => simp [intOf]; omega
    · obtain rfl : k = l.length := by omega
      have hs : s = runL l := by rw [HS.out, List.take_length]
      subst hs
      obtain ⟨At, ct, rfl, -⟩ := HR.out.row.slice
      have q0 := blk_cell HR.out.blk 0
      have q1 := blk_cell HR.out.blk 1
      have q2 := blk_cell HR.out.blk 2
      have hro : some w.heap.size ≠ (Value.slice At (runL l).1.length ct).ownBlock := by
        intro e
        obtain ⟨cells, hc⟩ := own_typed HR.out.row _ e.symm
        rw [HR.out.res] at hc
        injection hc with hc
        injection hc with _ hc
        exact absurd hc (by decide)
      have HRO := Aside0.mk hro
      clear hro
      have r0 := blk_cell HR.out.res 0
      have r1 := blk_cell HR.out.res 1
      have r2 := blk_cell HR.out.res 2
      have f0 := blk_frozen HR.out.res 0
      have f1 := blk_frozen HR.out.res 1
      have f2 := blk_frozen HR.out.res 2
      have hlt2 := blk_lt HR.out.res
      go_wp2
      refine bodyPost_ret (v := .agg #[.slice At (runL l).1.length ct, .slice B (runL l).2.1.length d, .int .i64 (runL l).2.2]) (by simp [results, Try.results16, go_sem, r0, r1, r2, hlt2]) rfl ?_
      refine ⟨_, B, d, rfl, own_setCell (own_setCell (own_setCell HR.out.row HRO.out _) HRO.out _) HRO.out _, C_move HR.out.left (fun ad e => ?_), HR.out.room, ((HR.out.fr.setCell (p := ⟨w.heap.size, 0, none⟩) (Nat.le_refl _) _).setCell (p := ⟨w.heap.size, 1, none⟩) (Nat.le_refl _) _).setCell (p := ⟨w.heap.size, 2, none⟩) (Nat.le_refl _) _⟩
      have hn : ad.block ≠ w.heap.size := by have := (HR.out.ne ad e).1; omega
      rw [Below.heap_setCell _ _ _ _ hn, Below.heap_setCell _ _ _ _ hn, Below.heap_setCell _ _ _ _ hn]
end Go.Proofs.Ytdkmmfhieapbaaa.Own

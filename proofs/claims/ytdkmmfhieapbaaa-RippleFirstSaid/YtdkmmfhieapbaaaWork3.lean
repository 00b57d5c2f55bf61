/-
  container/heap's up and Init over rows of drops, walked by hand.
-/
import Derived.Test.YtdkmmfhieapbaaaWork2
namespace Go.Proofs.Ytdkmmfhieapbaaa.Own
open Go.RowKit Go.Proofs.YtdkmmfhieapbaaaW.PrintWords Go.Proofs.YtdkmmfhieapbaaaW.PrintLast Go.Proofs.Ytdkmmfhieapbaaa.P Go.Proofs.Ytdkmmfhieapbaaa.Plain
set_option linter.unusedVariables false
attribute [local go_sem] m_len m_less m_swap m_push m_pop n_len n_less n_swap n_push n_pop

/-- Up: what holds of the rows at each round. -/
structure UpR (xs ys : List S24) (j : Nat) : Prop where
  len : ys.length = xs.length
  perm : ys.Perm xs
  hj : j < xs.length
  up : Up ltB ys xs.length j
theorem UpR.step {xs ys : List S24} {i j : Nat} {a b : S24} (h : UpR xs ys j) (hj : ch i j) (ha : ys[i]? = some a) (hb : ys[j]? = some b) (hlt : ltB b a = true) : UpR xs (sw ys i j a b) i where
  len := by rw [sw_length]; exact h.len
  perm := (sw_perm ha hb).trans h.perm
  hj := by have := h.hj; unfold ch at hj; omega
  up := up_step ltO h.up hj h.hj ha hb hlt
def UpP (g c base : Nat) (xs : List S24) (w : World) (e : Ending) (w' : World) : Prop := ∃ ys : List S24, e = .returned (.tuple #[]) ∧ ys.Perm xs ∧ Heap ltB ys xs.length 0 ∧
  Row w' base (.slice (some ⟨g, 0, none⟩) xs.length c) ys ∧ Fr w w' (fun k => k = g)
set_option maxRecDepth 100000 in
set_option maxHeartbeats 4000000 in
theorem up_calls (gs g c base : Nat) (xs : List S24) (w : World) (hq : w.heap[gs]? = some (.cells #[.slice (some ⟨g, 0, none⟩) xs.length c] 48 (0, 0))) (hne : gs ≠ g)
    (h : Row w base (.slice (some ⟨g, 0, none⟩) xs.length c) xs) (j : Nat) (hj : j < xs.length) (hU : Up ltB xs xs.length j) (hm : xs.length ≤ 100000) :
    Calls Try.prog 44 #[ifc gs, .int .i64 j] w (UpP g c base xs w) := by
  have hR0 : Aside0 (UpR xs xs j) := ⟨⟨rfl, .refl _, hj, hU⟩⟩
  have H := Aside0.mk h
  have HQ := Aside0.mk hq
  have HNE := Aside0.mk hne
  have HF := Aside0.mk (Fr.refl w (fun k => k = g))
  clear h hq hU hne
  go_enter Try.func44, Try.ntmps44
  go_wp2
  go_loopw [1] (fun v1 W => ∃ (j : Nat) (ys : List S24), j < xs.length ∧ v1 = .int .i64 j ∧ Aside0 (UpR xs ys j) ∧ Aside0 (Row W base (.slice (some ⟨g, 0, none⟩) xs.length c) ys) ∧ Aside0 (Fr w W (fun k => k = g))) (fun v1 _ => (intOf v1).toNat)
  case atStart => exact ⟨j, xs, hj, rfl, hR0, H, HF⟩
  case round => as_aux_lemma =>
    clear H HF hR0 hj
    obtain ⟨j, ys, hj, rfl, HR, H, HF⟩ := hrel
    have hq := hdr (HF.out.blk HQ.out HNE.out)
    by_cases h0 : j = 0
    · subst h0
      go_wp2
      go_end0
      unfold UpP
      exact ⟨ys, rfl, HR.out.perm, up_done HR.out.up (fun p x y hp _ _ => by unfold ch at hp; omega), H.out, HF.out⟩
    · obtain ⟨p, hp⟩ : ∃ p : Nat, ((j : Int) - 1) / 2 = (p : Int) := ⟨(j - 1) / 2, by omega⟩
      have hp2 : ch p j := by unfold ch; omega
      have hne1 : ((p : Int) == (j : Int)) = false := by simp; omega
      have h1 : (1 : Int) ≤ j := by omega
      obtain ⟨a, ha⟩ : ∃ a, ys[p]? = some a := ⟨_, List.getElem?_eq_getElem (by have := HR.out.len; unfold ch at hp2; omega)⟩
      obtain ⟨b, hb⟩ : ∃ b, ys[j]? = some b := ⟨_, List.getElem?_eq_getElem (by have := HR.out.len; omega)⟩
      have HA := Aside0.mk ha
      have HB := Aside0.mk hb
      have HP := Aside0.mk hp2
      clear ha hb hp2
      cases hl : ltB b a with
      | false =>
        have HL := Aside0.mk hl
        clear hl
        go_wp2_with fail
        go_at_call 45
        refine (less_at g c base ys _ _ _ _ j p b a H.out HR.out.len rfl (by rfl) HB.out HA.out (by rw [HR.out.len]; exact hm)).mono ?_
        rintro e w1 ⟨rfl, hb⟩
        rw [HL.out]
        have H1 := Aside0.mk (row_below H.out hb)
        have HF1 := Aside0.mk (HF.out.trans (Fr.of_below hb (fun _ => False)) (fun _ _ e => e.elim))
        clear hb
        go_wp2
        go_end0
        unfold UpP
        exact ⟨ys, rfl, HR.out.perm, up_done HR.out.up (fun q x y hq hx hy => by
          obtain rfl : q = p := by have := HP.out; unfold ch at hq this; omega
          rw [HA.out] at hx; rw [HB.out] at hy
          obtain rfl := Option.some.inj hx
          obtain rfl := Option.some.inj hy
          exact HL.out), H1.out, HF1.out⟩
      | true =>
        have HL := Aside0.mk hl
        clear hl
        go_wp2_with fail
        go_at_call 45
        refine (less_at g c base ys _ _ _ _ j p b a H.out HR.out.len rfl (by rfl) HB.out HA.out (by rw [HR.out.len]; exact hm)).mono ?_
        rintro e w1 ⟨rfl, hb⟩
        rw [HL.out]
        have H1 := Aside0.mk (row_below H.out hb)
        have HF1 := Aside0.mk (HF.out.trans (Fr.of_below hb (fun _ => False)) (fun _ _ e => e.elim))
        clear hb hq
        have hq := hdr (HF1.out.blk HQ.out HNE.out)
        go_wp2_with fail
        go_at_call 46
        refine (swap_at g c base ys _ _ _ _ p j a b H1.out HR.out.len (by rfl) (by rfl) HA.out HB.out (by rw [HR.out.len]; exact hm)).mono ?_
        rintro e w2 ⟨rfl, h2', hf2⟩
        have H2 := Aside0.mk h2'
        have HF2 := Aside0.mk (HF1.out.trans hf2 (fun _ _ e => e))
        clear h2' hf2
        go_wp2
        go_roundw
        case rel => exact ⟨p, sw ys p j a b, by have := HP.out; unfold ch at this; omega, rfl, ⟨HR.out.step HP.out HA.out HB.out HL.out⟩, H2, HF2⟩
        case measure => have := HP.out; simp [intOf]; unfold ch at this; omega

theorem down_at (gs g c base : Nat) (xs : List S24) (w : World) (L : Nat) (hL : xs.length = L) (hq : w.heap[gs]? = some (.cells #[.slice (some ⟨g, 0, none⟩) L c] 48 (0, 0))) (hne : gs ≠ g)
    (h : Row w base (.slice (some ⟨g, 0, none⟩) L c) xs) (n s i0 : Nat) (I N : Int) (hI : I = i0) (hN : N = n) (hn : n ≤ L) (hs : s ≤ i0) (hi0 : i0 ≤ n) (hD : Down ltB xs n s i0) (hm : L ≤ 100000) :
    Calls Try.prog 21 #[ifc gs, .int .i64 I, .int .i64 N] w fun e w' => ∃ (r : Bool) (ys : List S24), e = .returned (.bool r) ∧ ys.length = L ∧ (ys.take n).Perm (xs.take n) ∧ ys.drop n = xs.drop n ∧ Heap ltB ys n s ∧
      Row w' base (.slice (some ⟨g, 0, none⟩) L c) ys ∧ Fr w w' (fun k => k = g) := by
  subst hI hN hL
  exact down_calls gs g c base xs w hq hne h n s i0 hn hs hi0 hD hm
def InitP (base : Nat) (v : Value) (xs : List S24) (w : World) (e : Ending) (w' : World) : Prop := ∃ ys : List S24, e = .returned (.tuple #[]) ∧ ys.Perm xs ∧ Heap ltB ys ys.length 0 ∧
  Row w' base v ys ∧ Fr w w' (fun k => some k = v.ownBlock)
set_option maxRecDepth 100000 in
set_option maxHeartbeats 4000000 in
theorem init_calls (gs base : Nat) (v : Value) (xs : List S24) (w : World) (hq : w.heap[gs]? = some (.cells #[v] 48 (0, 0))) (hne : some gs ≠ v.ownBlock)
    (h : Row w base v xs) (hm : xs.length ≤ 100000) :
    Calls Try.prog 19 #[ifc gs] w (InitP base v xs w) := by
  have hsl : ∃ A c, v = .slice A xs.length c ∧ (xs.length = 0 ∨ ∃ g, A = some ⟨g, 0, none⟩) := by
    rcases h.2 with ⟨h1, h2⟩ | ⟨g, cap, cur, h1, _⟩
    · exact ⟨none, 0, by rw [h1, h2], .inl h2⟩
    · exact ⟨_, cap, h1, .inr ⟨g, rfl⟩⟩
  obtain ⟨A, c, rfl, hA⟩ := hsl
  have H := Aside0.mk h
  have HQ := Aside0.mk hq
  have HNE := Aside0.mk hne
  have HF := Aside0.mk (Fr.refl w (fun k => some k = (Value.slice A xs.length c).ownBlock))
  have hq := hdr hq
  have HA := Aside0.mk hA
  clear h hne hA
  by_cases h0 : xs.length = 0
  · have HX : Aside0 (Heap ltB xs xs.length 0) := ⟨heap_far xs (by omega)⟩
    rw [h0] at hq
    have H0 := Aside0.mk h0
    have HH := H.out
    have HHF := HF.out
    rw [h0] at HH HHF
    have H' := Aside0.mk HH
    have HF' := Aside0.mk HHF
    clear h0 HH HHF
    rw [H0.out]
    go_enter Try.func19, Try.ntmps19
    go_wp2_with (go_at_call 42; refine (len_calls _ _ _ _).mono ?_; rintro e w1 ⟨rfl, rfl⟩)
    go_loopw [3] (fun v3 W => v3 = .int .i64 (-1) ∧ W = w) (fun _ _ => 0)
    case atStart => exact ⟨rfl, rfl⟩
    case round =>
      obtain ⟨rfl, rfl⟩ := hrel
      go_wp2
      go_end0
      unfold InitP
      exact ⟨xs, rfl, .refl _, HX.out, H'.out, HF'.out⟩
  · obtain ⟨g, rfl⟩ := HA.out.resolve_left h0
    have hne : gs ≠ g := fun e => HNE.out (by rw [e]; rfl)
    have hd : ∃ m : Nat, (xs.length : Int) / 2 = m ∧ m ≤ xs.length ∧ xs.length ≤ 2 * m + 1 := ⟨xs.length / 2, by omega, by omega, by omega⟩
    obtain ⟨m, hm1, hm2, hm3⟩ := hd
    have HX : Aside0 (Heap ltB xs xs.length m) := ⟨heap_far xs hm3⟩
    go_enter Try.func19, Try.ntmps19
    go_wp2_with (go_at_call 42; refine (len_calls _ _ _ _).mono ?_; rintro e w1 ⟨rfl, rfl⟩)
    go_loopw [3] (fun v3 W => ∃ (I : Int) (m : Nat) (ys : List S24), -1 ≤ I ∧ I ≤ 100000 ∧ v3 = .int .i64 I ∧ Aside0 (I = (m : Int) - 1) ∧ Aside0 (ys.length = xs.length ∧ m ≤ xs.length ∧ ys.Perm xs ∧ Heap ltB ys xs.length m) ∧ Aside0 (Row W base (.slice (some ⟨g, 0, none⟩) xs.length c) ys) ∧ Aside0 (Fr w W (fun k => some k = (Value.slice (some ⟨g, 0, none⟩) xs.length c).ownBlock))) (fun v3 _ => (intOf v3 + 1).toNat)
    case atStart => exact ⟨_, m, xs, by omega, by omega, rfl, ⟨rfl⟩, ⟨rfl, hm2, .refl _, HX.out⟩, H, HF⟩
    case round => as_aux_lemma =>
      clear H HF HX hm1 hm2 hm3 hq
      obtain ⟨I, m, ys, hI1, hI2, rfl, HI, HR, H, HF⟩ := hrel
      have hfr : Fr w wr (fun k => k = g) := HF.out.mono (fun i _ e => by injection e)
      have HQ1 := Aside0.mk (hfr.blk HQ.out hne)
      clear hfr
      by_cases h1 : 0 ≤ I
      · obtain ⟨i, hi⟩ : ∃ i : Nat, I = i := ⟨I.toNat, by omega⟩
        have hmi : m = i + 1 := by have := HI.out; omega
        subst hmi
        have HII := Aside0.mk hi
        clear hi
        go_wp2_with fail
        go_at_call 21
        refine (down_at gs g c base ys _ xs.length HR.out.1 HQ1.out hne H.out xs.length i i _ _ HII.out rfl (Nat.le_refl _) (Nat.le_refl _) (by have := HR.out.2.1; omega) (down_start HR.out.2.2.2) hm).mono ?_
        rintro e w1 ⟨r, zs, rfl, hz1, hz2, hz3, hz4, hz5, hz6⟩
        have HZ := Aside0.mk (And.intro hz1 (And.intro hz2 hz4))
        have H1 := Aside0.mk hz5
        have HF1 := Aside0.mk (HF.out.trans hz6 (fun k _ e => by rw [e]; rfl))
        clear hz1 hz2 hz3 hz4 hz5 hz6
        go_wp2
        go_roundw
        case rel =>
          refine ⟨_, i, zs, ?_, ?_, rfl, ⟨?_⟩, ⟨HZ.out.1, by have := HR.out.2.1; omega, ?_, ?_⟩, H1, HF1⟩
          · have := HII.out; omega
          · omega
          · have := HII.out; omega
          · have h2 := HZ.out.2.1
            rw [List.take_of_length_le (by rw [HZ.out.1]; exact Nat.le_refl _), List.take_of_length_le (by rw [HR.out.1]; exact Nat.le_refl _)] at h2
            exact h2.trans HR.out.2.2.1
          · exact HZ.out.2.2
        case measure => simp [intOf]; omega
      · go_wp2
        go_end0
        unfold InitP
        obtain ⟨h3, h4, h5, h6⟩ := HR.out
        have : m = 0 := by have := HI.out; omega
        subst this
        exact ⟨ys, rfl, h5, by rw [h3]; exact h6, H.out, HF.out⟩
end Go.Proofs.Ytdkmmfhieapbaaa.Own

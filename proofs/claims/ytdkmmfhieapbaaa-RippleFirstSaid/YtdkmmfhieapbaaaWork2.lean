/-
  container/heap's down and up over rows of drops, walked by hand.
-/
import Derived.Test.YtdkmmfhieapbaaaWork1
namespace Go.Proofs.Ytdkmmfhieapbaaa.Own
open Go.RowKit Go.Proofs.YtdkmmfhieapbaaaW.PrintWords Go.Proofs.YtdkmmfhieapbaaaW.PrintLast Go.Proofs.Ytdkmmfhieapbaaa.P Go.Proofs.Ytdkmmfhieapbaaa.Plain
set_option linter.unusedVariables false
attribute [local go_sem] m_len m_less m_swap m_push m_pop n_len n_less n_swap n_push n_pop

theorem hdr {w : World} {gs : Nat} {v : Value} {t : TypeId} (h : w.heap[gs]? = some (.cells #[v] t (0, 0))) : w.cell? ⟨gs, 0, none⟩ = some v := blk_cell h 0
theorem less_at (g c base : Nat) (xs : List S24) (w : World) (n : Nat) (I J : Int) (i j : Nat) (a b : S24) (h : Row w base (.slice (some ⟨g, 0, none⟩) n c) xs) (hn : xs.length = n) (hI : I = i) (hJ : J = j) (hi : xs[i]? = some a) (hj : xs[j]? = some b) (hm : xs.length ≤ 100000) :
    Calls Try.prog 45 #[.slice (some ⟨g, 0, none⟩) n c, .int .i64 I, .int .i64 J] w fun e w' => e = .returned (.bool (ltB a b)) ∧ Below w.heap.size w w' := by
  subst hI hJ hn
  exact less_calls g c base xs w h i j a b hi hj hm
theorem swap_at (g c base : Nat) (xs : List S24) (w : World) (n : Nat) (I J : Int) (i j : Nat) (a b : S24) (h : Row w base (.slice (some ⟨g, 0, none⟩) n c) xs) (hn : xs.length = n) (hI : I = i) (hJ : J = j) (hi : xs[i]? = some a) (hj : xs[j]? = some b) (hm : xs.length ≤ 100000) :
    Calls Try.prog 46 #[.slice (some ⟨g, 0, none⟩) n c, .int .i64 I, .int .i64 J] w fun e w' => e = .returned (.tuple #[]) ∧ Row w' base (.slice (some ⟨g, 0, none⟩) n c) (sw xs i j a b) ∧ Fr w w' (fun k => k = g) := by
  subst hI hJ hn
  exact swap_calls g c base xs w h i j a b hi hj hm
theorem row_below {w w1 : World} {base : Nat} {v : Value} {xs : List S24} (h : Row w base v xs) (hb : Below w.heap.size w w1) : Row w1 base v xs := (Fr.of_below hb (fun _ => False)).own h (fun _ _ e => e)
/-- The heap's interface. -/
abbrev ifc (gs : Nat) : Value := .iface 50 (.pointer (some ⟨gs, 0, none⟩))
/-- Down: what holds of the rows at each round. -/
structure DownR (xs ys : List S24) (n s i0 i : Nat) : Prop where
  len : ys.length = xs.length
  take : (ys.take n).Perm (xs.take n)
  drop : ys.drop n = xs.drop n
  low : s ≤ i
  hi : i ≤ n
  down : Down ltB ys n s i

def DownP (g c base : Nat) (xs : List S24) (w : World) (n s : Nat) (e : Ending) (w' : World) : Prop := ∃ (r : Bool) (ys : List S24), e = .returned (.bool r) ∧ ys.length = xs.length ∧ (ys.take n).Perm (xs.take n) ∧ ys.drop n = xs.drop n ∧ Heap ltB ys n s ∧
  Row w' base (.slice (some ⟨g, 0, none⟩) xs.length c) ys ∧ Fr w w' (fun k => k = g)
theorem DownR.step {xs ys : List S24} {n s i0 i j : Nat} {a b : S24} (h : DownR xs ys n s i0 i) (hjn : j < n) (hj : ch i j) (ha : ys[i]? = some a) (hb : ys[j]? = some b) (hlt : ltB b a = true)
    (ho : ∀ c y, ch i c → c < n → ys[c]? = some y → ltB y b = false) : DownR xs (sw ys i j a b) n s i0 j where
  len := by rw [sw_length]; exact h.len
  take := (sw_take ha hb (by unfold ch at hj; omega) hjn).trans h.take
  drop := by rw [sw_drop (by unfold ch at hj; omega) hjn]; exact h.drop
  low := by have := h.low; unfold ch at hj; omega
  hi := Nat.le_of_lt hjn
  down := down_step ltO h.down h.low hj hjn ha hb hlt ho
set_option maxRecDepth 100000 in
set_option maxHeartbeats 4000000 in
theorem down_calls (gs g c base : Nat) (xs : List S24) (w : World) (hq : w.heap[gs]? = some (.cells #[.slice (some ⟨g, 0, none⟩) xs.length c] 48 (0, 0))) (hne : gs ≠ g)
    (h : Row w base (.slice (some ⟨g, 0, none⟩) xs.length c) xs) (n s i0 : Nat) (hn : n ≤ xs.length) (hs : s ≤ i0) (hi0 : i0 ≤ n) (hD : Down ltB xs n s i0) (hm : xs.length ≤ 100000) :
    Calls Try.prog 21 #[ifc gs, .int .i64 i0, .int .i64 n] w (DownP g c base xs w n s) := by
  have hR0 : Aside0 (DownR xs xs n s i0 i0) := ⟨⟨rfl, .refl _, rfl, hs, hi0, hD⟩⟩
  have H := Aside0.mk h
  have HQ := Aside0.mk hq
  have HNE := Aside0.mk hne
  have HF := Aside0.mk (Fr.refl w (fun k => k = g))
  clear h hq hD hne
  go_enter Try.func21, Try.ntmps21
  go_wp2
  go_loopw [7] (fun v7 W => ∃ (i : Nat) (ys : List S24), i ≤ n ∧ v7 = .int .i64 i ∧ Aside0 (DownR xs ys n s i0 i) ∧ Aside0 (Row W base (.slice (some ⟨g, 0, none⟩) xs.length c) ys) ∧ Aside0 (Fr w W (fun k => k = g))) (fun v7 _ => n - (intOf v7).toNat)
  case atStart => exact ⟨i0, xs, hi0, rfl, hR0, H, HF⟩
  case round => as_aux_lemma =>
    clear H HF hR0
    obtain ⟨i, ys, hin, rfl, HR, H, HF⟩ := hrel
    have hq := hdr (HF.out.blk HQ.out HNE.out)
    by_cases h1 : 2 * i + 1 < n
    · obtain ⟨a, ha⟩ : ∃ a, ys[i]? = some a := ⟨_, List.getElem?_eq_getElem (by have := HR.out.len; omega)⟩
      obtain ⟨b, hb⟩ : ∃ b, ys[2 * i + 1]? = some b := ⟨_, List.getElem?_eq_getElem (by have := HR.out.len; omega)⟩
      have HA := Aside0.mk ha
      have HB := Aside0.mk hb
      clear ha hb
      by_cases h2 : 2 * i + 2 < n
      · obtain ⟨b2, hb2⟩ : ∃ b2, ys[2 * i + 2]? = some b2 := ⟨_, List.getElem?_eq_getElem (by have := HR.out.len; omega)⟩
        have HB2 := Aside0.mk hb2
        clear hb2
        cases hm2 : ltB b2 b with
        | true =>
          have HM := Aside0.mk hm2
          clear hm2
          have oth : ∀ c y, ch i c → ys[c]? = some y → ltB y b2 = false := fun c y hch hy => by
            rcases hch with rfl | rfl
            · rw [HB.out] at hy; obtain rfl := Option.some.inj hy; exact (ltO.asym HM.out)
            · rw [HB2.out] at hy; obtain rfl := Option.some.inj hy; exact (ltO.irr _)
          have OTH := Aside0.mk oth
          clear oth
          cases hl : ltB b2 a with
          | false =>
            have HL := Aside0.mk hl
            clear hl
            go_wp2_with fail
            go_at_call 45; refine (less_at g c base ys _ _ _ _ (2 * i + 2) (2 * i + 1) b2 b H.out HR.out.len (by omega) (by omega) HB2.out HB.out (by rw [HR.out.len]; exact hm)).mono ?_; rintro e w0 ⟨rfl, hb⟩; rw [HM.out]; have H0 := Aside0.mk (row_below H.out hb); have HF0 := Aside0.mk (HF.out.trans (Fr.of_below hb (fun _ => False)) (fun _ _ e => e.elim)); clear hq hb; have hq := hdr (HF0.out.blk HQ.out HNE.out)
            go_wp2_with fail
            go_at_call 45; refine (less_at g c base ys _ _ _ _ (2 * i + 2) i b2 a H0.out HR.out.len (by omega) (by omega) HB2.out HA.out (by rw [HR.out.len]; exact hm)).mono ?_; rintro e w1 ⟨rfl, hb⟩; rw [HL.out]; have H1 := Aside0.mk (row_below H0.out hb); have HF1 := Aside0.mk (HF0.out.trans (Fr.of_below hb (fun _ => False)) (fun _ _ e => e.elim)); clear hq hb; have hq := hdr (HF1.out.blk HQ.out HNE.out)
            go_wp2
            go_ret
            unfold DownP
            exact ⟨_, ys, rfl, HR.out.len, HR.out.take, HR.out.drop, down_done HR.out.down (fun c x y hc hch hx hy => by
              rw [HA.out] at hx
              obtain rfl := Option.some.inj hx
              exact ltO.le_tr HL.out (OTH.out c y hch hy)), H1.out, HF1.out⟩
          | true =>
            have HL := Aside0.mk hl
            clear hl
            go_wp2_with fail
            go_at_call 45; refine (less_at g c base ys _ _ _ _ (2 * i + 2) (2 * i + 1) b2 b H.out HR.out.len (by omega) (by omega) HB2.out HB.out (by rw [HR.out.len]; exact hm)).mono ?_; rintro e w0 ⟨rfl, hb⟩; rw [HM.out]; have H0 := Aside0.mk (row_below H.out hb); have HF0 := Aside0.mk (HF.out.trans (Fr.of_below hb (fun _ => False)) (fun _ _ e => e.elim)); clear hq hb; have hq := hdr (HF0.out.blk HQ.out HNE.out)
            go_wp2_with fail
            go_at_call 45; refine (less_at g c base ys _ _ _ _ (2 * i + 2) i b2 a H0.out HR.out.len (by omega) (by omega) HB2.out HA.out (by rw [HR.out.len]; exact hm)).mono ?_; rintro e w1 ⟨rfl, hb⟩; rw [HL.out]; have H1 := Aside0.mk (row_below H0.out hb); have HF1 := Aside0.mk (HF0.out.trans (Fr.of_below hb (fun _ => False)) (fun _ _ e => e.elim)); clear hq hb; have hq := hdr (HF1.out.blk HQ.out HNE.out)
            go_wp2_with (go_at_call 46; refine (swap_at g c base ys _ _ _ _ i (2 * i + 2) a b2 H1.out HR.out.len (by omega) (by omega) HA.out HB2.out (by rw [HR.out.len]; exact hm)).mono ?_; rintro e w2 ⟨rfl, h2', hf2⟩; have H2 := Aside0.mk h2'; have HF2 := Aside0.mk (HF1.out.trans hf2 (fun _ _ e => e)); clear h2' hf2)
            go_roundw
            case rel => exact ⟨(2 * i + 2), sw ys i (2 * i + 2) a b2, by omega, by go_num, ⟨HR.out.step (by omega) (by unfold ch; omega) HA.out HB2.out HL.out (fun c y hch hc hy => OTH.out c y hch hy)⟩, H2, HF2⟩
            case measure => simp [intOf]; omega
        | false =>
          have HM := Aside0.mk hm2
          clear hm2
          have oth : ∀ c y, ch i c → ys[c]? = some y → ltB y b = false := fun c y hch hy => by
            rcases hch with rfl | rfl
            · rw [HB.out] at hy; obtain rfl := Option.some.inj hy; exact (ltO.irr _)
            · rw [HB2.out] at hy; obtain rfl := Option.some.inj hy; exact HM.out
          have OTH := Aside0.mk oth
          clear oth
          cases hl : ltB b a with
          | false =>
            have HL := Aside0.mk hl
            clear hl
            go_wp2_with fail
            go_at_call 45; refine (less_at g c base ys _ _ _ _ (2 * i + 2) (2 * i + 1) b2 b H.out HR.out.len (by omega) (by omega) HB2.out HB.out (by rw [HR.out.len]; exact hm)).mono ?_; rintro e w0 ⟨rfl, hb⟩; rw [HM.out]; have H0 := Aside0.mk (row_below H.out hb); have HF0 := Aside0.mk (HF.out.trans (Fr.of_below hb (fun _ => False)) (fun _ _ e => e.elim)); clear hq hb; have hq := hdr (HF0.out.blk HQ.out HNE.out)
            go_wp2_with fail
            go_at_call 45; refine (less_at g c base ys _ _ _ _ (2 * i + 1) i b a H0.out HR.out.len (by omega) (by omega) HB.out HA.out (by rw [HR.out.len]; exact hm)).mono ?_; rintro e w1 ⟨rfl, hb⟩; rw [HL.out]; have H1 := Aside0.mk (row_below H0.out hb); have HF1 := Aside0.mk (HF0.out.trans (Fr.of_below hb (fun _ => False)) (fun _ _ e => e.elim)); clear hq hb; have hq := hdr (HF1.out.blk HQ.out HNE.out)
            go_wp2
            go_ret
            unfold DownP
            exact ⟨_, ys, rfl, HR.out.len, HR.out.take, HR.out.drop, down_done HR.out.down (fun c x y hc hch hx hy => by
              rw [HA.out] at hx
              obtain rfl := Option.some.inj hx
              exact ltO.le_tr HL.out (OTH.out c y hch hy)), H1.out, HF1.out⟩
          | true =>
            have HL := Aside0.mk hl
            clear hl
            go_wp2_with fail
            go_at_call 45; refine (less_at g c base ys _ _ _ _ (2 * i + 2) (2 * i + 1) b2 b H.out HR.out.len (by omega) (by omega) HB2.out HB.out (by rw [HR.out.len]; exact hm)).mono ?_; rintro e w0 ⟨rfl, hb⟩; rw [HM.out]; have H0 := Aside0.mk (row_below H.out hb); have HF0 := Aside0.mk (HF.out.trans (Fr.of_below hb (fun _ => False)) (fun _ _ e => e.elim)); clear hq hb; have hq := hdr (HF0.out.blk HQ.out HNE.out)
            go_wp2_with fail
            go_at_call 45; refine (less_at g c base ys _ _ _ _ (2 * i + 1) i b a H0.out HR.out.len (by omega) (by omega) HB.out HA.out (by rw [HR.out.len]; exact hm)).mono ?_; rintro e w1 ⟨rfl, hb⟩; rw [HL.out]; have H1 := Aside0.mk (row_below H0.out hb); have HF1 := Aside0.mk (HF0.out.trans (Fr.of_below hb (fun _ => False)) (fun _ _ e => e.elim)); clear hq hb; have hq := hdr (HF1.out.blk HQ.out HNE.out)
            go_wp2_with (go_at_call 46; refine (swap_at g c base ys _ _ _ _ i (2 * i + 1) a b H1.out HR.out.len (by omega) (by omega) HA.out HB.out (by rw [HR.out.len]; exact hm)).mono ?_; rintro e w2 ⟨rfl, h2', hf2⟩; have H2 := Aside0.mk h2'; have HF2 := Aside0.mk (HF1.out.trans hf2 (fun _ _ e => e)); clear h2' hf2)
            go_roundw
            case rel => exact ⟨(2 * i + 1), sw ys i (2 * i + 1) a b, by omega, by go_num, ⟨HR.out.step (by omega) (by unfold ch; omega) HA.out HB.out HL.out (fun c y hch hc hy => OTH.out c y hch hy)⟩, H2, HF2⟩
            case measure => simp [intOf]; omega
      · cases hl : ltB b a with
        | false =>
          have HL := Aside0.mk hl
          clear hl
          go_wp2_with (go_at_call 45; refine (less_at g c base ys _ _ _ _ (2 * i + 1) i b a H.out HR.out.len (by omega) (by omega) HB.out HA.out (by rw [HR.out.len]; exact hm)).mono ?_; rintro e w1 ⟨rfl, hb⟩; rw [HL.out]; have H1 := Aside0.mk (row_below H.out hb); have HF1 := Aside0.mk (HF.out.trans (Fr.of_below hb (fun _ => False)) (fun _ _ e => e.elim)); clear hb)
          go_ret
          unfold DownP
          exact ⟨_, ys, rfl, HR.out.len, HR.out.take, HR.out.drop, down_done HR.out.down (fun c x y hc hch hx hy => by
            obtain rfl : c = 2 * i + 1 := by unfold ch at hch; omega
            rw [HA.out] at hx; rw [HB.out] at hy
            obtain rfl := Option.some.inj hx
            obtain rfl := Option.some.inj hy
            exact HL.out), H1.out, HF1.out⟩
        | true =>
          have HL := Aside0.mk hl
          clear hl
          go_wp2_with (first
            | (go_at_call 45; refine (less_at g c base ys _ _ _ _ (2 * i + 1) i b a H.out HR.out.len (by omega) (by omega) HB.out HA.out (by rw [HR.out.len]; exact hm)).mono ?_; rintro e w1 ⟨rfl, hb⟩; rw [HL.out]; have H1 := Aside0.mk (row_below H.out hb); have HF1 := Aside0.mk (HF.out.trans (Fr.of_below hb (fun _ => False)) (fun _ _ e => e.elim)); clear hq hb; have hq := hdr (HF1.out.blk HQ.out HNE.out))
            | (go_at_call 46; refine (swap_at g c base ys _ _ _ _ i (2 * i + 1) a b H1.out HR.out.len (by omega) (by omega) HA.out HB.out (by rw [HR.out.len]; exact hm)).mono ?_; rintro e w2 ⟨rfl, h2', hf2⟩; have H2 := Aside0.mk h2'; have HF2 := Aside0.mk (HF1.out.trans hf2 (fun _ _ e => e)); clear h2' hf2))
          go_roundw
          case rel => exact ⟨2 * i + 1, sw ys i (2 * i + 1) a b, by omega, by go_num, ⟨HR.out.step h1 (.inl rfl) HA.out HB.out HL.out (fun c y hch hc hy => by
            obtain rfl : c = 2 * i + 1 := by unfold ch at hch; omega
            rw [HB.out] at hy
            obtain rfl := Option.some.inj hy
            exact ltO.irr _)⟩, H2, HF2⟩
          case measure => simp [intOf]; omega
    · go_wp2
      go_ret
      unfold DownP
      exact ⟨_, ys, rfl, HR.out.len, HR.out.take, HR.out.drop, down_done HR.out.down (fun c x y hc hch => by unfold ch at hch; omega), H.out, HF.out⟩
end Go.Proofs.Ytdkmmfhieapbaaa.Own

/-
  RippleFirst, walked by hand: for any drops it returns true.
-/
import Derived.Test.YtdkmmfhieapbaaaCalls
import Derived.Deep.RegionLaw
import Derived.IntWalk
namespace Go.Proofs.Ytdkmmfhieapbaaa.Own
open Go.RowKit Go.Proofs.YtdkmmfhieapbaaaW.PrintWords Go.Proofs.YtdkmmfhieapbaaaW.PrintLast Go.Proofs.Ytdkmmfhieapbaaa.P Go.Proofs.Ytdkmmfhieapbaaa.Plain Go.Proofs.Ytdkmmfhieapbaaa.Pure
set_option linter.unusedVariables false

structure Hold1 (p : Prop) : Prop where mk :: (out : p)
theorem hold1 {p : Prop} (h : Hold1 p) : p := h.out
theorem s1_one {p q : Prop} (h : p ∧ q) : p := h.1
theorem row_C' {w : World} {base : Nat} {v : Value} {xs : List S24} (h : Row w base v xs) : ∃ A c, v = .slice A xs.length c ∧ xs.length ≤ c ∧ Kd.C k24 w A xs.length xs := Kd.R_reads (row_R h (fun _ => True) (fun _ _ => trivial))
theorem R_row {w : World} {base : Nat} {v : Value} {xs : List S24} {ok : Nat → Prop} (h : Kd.R k24 24 w base ok v xs) : Row w base v xs := by
  obtain ⟨_, inner, hown, hr⟩ := h
  have e : inner = cl xs := by
    refine List.ext_getElem? fun j => ?_
    by_cases hj : j < inner.length
    · have hl : inner.length = xs.length * 2 := hr.1
      obtain ⟨p, hp⟩ : ∃ p, xs[j / 2]? = some p := ⟨_, List.getElem?_eq_getElem (by omega)⟩
      have h1 := k24_openM (hr.2 (j / 2) p hp)
      obtain ⟨c1, c2⟩ := cl_get hp
      have e2 : k24.sz = 2 := rfl
      rw [e2] at h1
      rcases Nat.mod_two_eq_zero_or_one j with e | e
      · have hj2 : j = 2 * (j / 2) := by omega
        have h3 : ((inner.drop (j / 2 * 2)).take 2)[0]? = some (.int .i64 p.f0) := by rw [h1]; rfl
        rw [List.getElem?_take, if_pos (by omega), List.getElem?_drop, Nat.add_zero, Nat.mul_comm] at h3
        rw [hj2, h3, c1]
      · have hj2 : j = 2 * (j / 2) + 1 := by omega
        have h3 : ((inner.drop (j / 2 * 2)).take 2)[1]? = some (.int .u64 p.f1) := by rw [h1]; rfl
        rw [List.getElem?_take, if_pos (by omega), List.getElem?_drop, Nat.mul_comm] at h3
        rw [hj2, h3, c2]
    · have hl : inner.length = xs.length * 2 := hr.1
      rw [List.getElem?_eq_none (by omega), List.getElem?_eq_none (by rw [cl_length]; omega)]
  subst e
  exact hown
section
variable {ops : Array Oper} {o : Oper} {a : Act} {Kc : Act → World → Prop} {Q : Exit → Act → World → Prop} {W : World}
theorem step_first (hgd : o.guard = none) (s x : Operand) (ho : o.op = .call { callee := .builtin .append, args := #[s, x], argTypes := #[25, 25] }) (wq : World) (A : Option Addr) (c : Nat) (l : List S24) (b0 : Nat)
    (hs : a.eval s = .slice (some ⟨b0, 0, none⟩) 0 0) (hx : a.eval x = .slice A l.length c) (hE : W.heap[b0]? = some (.cells #[] 24 (0, 0))) (hb0 : wq.heap.size ≤ b0) (HC : Kd.C k24 W A l.length l) (HB : Below wq.heap.size wq W) (hl : l.length ≤ 60000)
    (h : ∀ A1 c1 w1, l.length ≤ c1 → Row w1 wq.heap.size (.slice A1 l.length c1) l → Below wq.heap.size wq w1 → Fr W w1 (fun k => k = b0) → (∀ k, (Value.slice A1 l.length c1).ownBlock = some k → k = b0 ∨ W.heap.size ≤ k) → Kc (a.put o.dst (.slice A1 l.length c1)) w1) :
    if Region.wanted o (yielded ops a.tmps) = true then Oper.wp Try.prog o a W Kc Q else Kc (a.put o.dst undef) W := by
  refine Kd.R_append_rows_step (d := k24) (Rr := k24.K W) (w0 := wq) wq.heap.size (by simp [Region.wanted, hgd]) s x 25 24 _ 16 ho Try.underlying25 info24 rfl (by decide) (by decide) _ [] l A l.length c (fun _ => True) (fun _ => False) hs hx ?_ HC ?_ (fun _ h => h.elim) (fun _ _ => trivial) HB HB.size (by simp; omega) ?_
  · exact row_R (xs := []) ⟨rfl, .inr ⟨b0, 0, #[], rfl, hb0, hE, Nat.le_refl _, Nat.zero_le _, rfl, rfl⟩⟩ _ (fun _ _ => trivial)
  · intro x cs hk
    obtain rfl := k24_open hk
    exact k24_mkM W _ _ x
  · intro v1 w1 hr hb hg hat
    have hrow := R_row hr
    rw [List.nil_append] at hrow
    obtain ⟨A1, c1, rfl, h1, _⟩ := row_C' hrow
    refine h A1 c1 w1 h1 hrow hb ((Fr.of_grown hg).mono (fun k _ e => ?_)) (fun k hk => ?_)
    · have e2 : some k = some b0 := e
      injection e2
    · rcases hat with e | ⟨b, e, hle⟩
      · rw [e] at hk
        have e2 : some b0 = some k := hk
        injection e2 with e2
        exact .inl e2.symm
      · rw [e] at hk
        injection hk with hk
        exact .inr (by omega)
theorem step_second (hgd : o.guard = none) (s x : Operand) (ho : o.op = .call { callee := .builtin .append, args := #[s, x], argTypes := #[25, 25] }) (wq : World) (A1 : Option Addr) (c1 : Nat) (l : List S24) (d : S24) (b1 : Nat)
    (hs : a.eval s = .slice A1 l.length c1) (hx : a.eval x = .slice (some ⟨b1, 0, none⟩) 1 1) (hD : W.heap[b1]? = some (dob d)) (HR : Row W wq.heap.size (.slice A1 l.length c1) l) (HB : Below wq.heap.size wq W) (hl : l.length ≤ 60000)
    (h : ∀ A2 c2 w2, l.length + 1 ≤ c2 → Kd.C k24 w2 A2 (l.length + 1) (l ++ [d]) → Below wq.heap.size wq w2 → Kc (a.put o.dst (.slice A2 (l.length + 1) c2)) w2) :
    if Region.wanted o (yielded ops a.tmps) = true then Oper.wp Try.prog o a W Kc Q else Kc (a.put o.dst undef) W := by
  have hcd : Kd.C k24 W (some ⟨b1, 0, none⟩) 1 [d] := ⟨rfl, by decide, fun _ => ⟨_, rfl, fun j p hj => by
    cases j with
    | succ j => simp at hj
    | zero =>
      obtain rfl : d = p := by simpa using hj
      refine ⟨[.int .i64 d.f0, .int .u64 d.f1], rfl, k24_mk W d, fun i u hu => ?_⟩
      rw [Nat.zero_mul, Nat.zero_add]
      exact World.news_of_block hD i u hu⟩⟩
  refine Kd.R_append_rows_step (d := k24) (Rr := k24.K W) (w0 := wq) wq.heap.size (by simp [Region.wanted, hgd]) s x 25 24 _ 16 ho Try.underlying25 info24 rfl (by decide) (by decide) _ l [d] (some ⟨b1, 0, none⟩) 1 1 (fun _ => True) (fun _ => False) hs hx (row_R HR _ (fun _ _ => trivial)) hcd ?_ (fun _ h => h.elim) (fun _ _ => trivial) HB HB.size (by omega) ?_
  · intro x cs hk
    obtain rfl := k24_open hk
    exact k24_mkM W _ _ x
  · intro v1 w1 hr hb hg hat
    obtain ⟨A2, c2, rfl, h1, h2⟩ := Kd.R_reads hr
    rw [List.length_append, List.length_singleton] at h1 h2 ⊢
    exact h A2 c2 w1 h1 h2 hb
end

theorem sortedN_at (A : Option Addr) (c : Nat) (l : List S24) (w : World) (n : Nat) (hn : l.length = n) (hC : Kd.C k24 w A n l) (hc : n ≤ c) (hm : n ≤ 60000) :
    Calls Try.prog 13 #[.slice A n c] w fun e w' => ∃ A c, e = .returned (.slice A n c) ∧ n ≤ c ∧ Kd.C k24 w' A n (srt ltB l) ∧ Below w.heap.size w w' := by
  subst hn
  exact sortedS_at A c l w hC hc hm
theorem take_C {w : World} {B : Option Addr} {k : Nat} {xs : List S24} (h : Kd.C k24 w B (k + 1) (xs.take (k + 1))) : Kd.C k24 w B k (xs.take k) := by
  have e0 : xs.take k = (xs.take (k + 1)).take k := by rw [List.take_take, Nat.min_eq_left (Nat.le_succ k)]
  rw [e0]
  obtain ⟨ys, hys⟩ : ∃ ys, xs.take (k + 1) = ys := ⟨_, rfl⟩
  rw [hys] at h ⊢
  have h1 : ys.length = k + 1 := h.1
  rw [← h1] at h
  have h2 := Kd.C_take (m := k) h (show k ≤ ys.length by omega)
  have e : (ys.take k).length = k := by rw [List.length_take]; omega
  rw [e] at h2
  exact h2
theorem first_at' (A : Option Addr) (c : Nat) (l : List S24) (K : Int) (k : Nat) (w : World) (hK : K = (k : Int)) (hC : Kd.C k24 w A l.length l) (hc : l.length ≤ c) (hm : l.length ≤ 60000) (hk : k ≤ l.length) :
    Calls Try.prog 8 #[.slice A l.length c, .int .i64 K] w fun e w' => ∃ B d, e = .returned (.tuple #[.slice B k d, .int .i64 0]) ∧ k ≤ d ∧ Kd.C k24 w' B k ((srt ltB l).take k) ∧ Below w.heap.size w w' := by
  subst hK
  exact first_at A c l k w hC hc hm hk
set_option maxRecDepth 100000 in
set_option maxHeartbeats 16000000 in
theorem firstLaw_calls (d : S24) (A : Option Addr) (c : Nat) (l0 : List S24) (i2 : Int) (w : World) (hC : Kd.C k24 w A l0.length l0) (hc : l0.length ≤ c) (wi2 : (Lit.int .i64 i2).wf = true) :
    Calls Try.prog 4 #[.slice A l0.length c, dr d, .int .i64 i2] w fun e w' => e = .returned (.bool true) ∧ Below w.heap.size w w' := by
  have hm := hC.2.1
  obtain ⟨l, hl⟩ : ∃ l, l0.take (min l0.length 60) = l := ⟨_, rfl⟩
  have hlen : l.length = min l0.length 60 := by rw [← hl, List.length_take]; omega
  have hCl : Kd.C k24 w A l.length l := by rw [← hl]; exact Kd.C_take hC (by omega)
  have hl60 : l.length ≤ 60 := by omega
  have hlc : l.length ≤ c := by omega
  have HC := Aside0.mk hCl
  have HLEN := Aside0.mk hlen.symm
  have HB0 : Aside0 (Below w.heap.size w (w.alloc (dob d))) := ⟨(Below.refl _ _).alloc (Nat.le_refl _) _⟩
  obtain ⟨t, ht⟩ : ∃ t, Int.tmod i2 ((l.length : Int) + 1) = t := ⟨_, rfl⟩
  have t1 : -61 < t := by
    rw [← ht]
    have := Int.tmod_lt_of_pos (-i2) (show (0 : Int) < (l.length : Int) + 1 by omega)
    rw [Int.neg_tmod] at this
    omega
  have t3 : 0 ≤ t + ((l.length : Int) + 1) := by
    have := Int.tmod_lt_of_pos (-i2) (show (0 : Int) < (l.length : Int) + 1 by omega)
    rw [Int.neg_tmod, ht] at this
    omega
  have t2 : t < 61 := by
    rw [← ht]
    have := Int.tmod_lt_of_pos i2 (show (0 : Int) < (l.length : Int) + 1 by omega)
    omega
  obtain ⟨k, hk⟩ := Int.eq_ofNat_of_zero_le (Int.emod_nonneg (t + ((l.length : Int) + 1)) (show ((l.length : Int) + 1) ≠ 0 by omega))
  have hkn : k ≤ l.length := by
    have := Int.emod_lt_of_pos (t + ((l.length : Int) + 1)) (show (0 : Int) < (l.length : Int) + 1 by omega)
    omega
  have hk2 : Int.tmod (t + ((l.length : Int) + 1)) ((l.length : Int) + 1) = (k : Int) := by rw [Int.tmod_eq_emod_of_nonneg t3]; exact hk
  have hz : ((l.length : Int) + 1 == 0) = false := by simp; omega
  clear hC hCl hlen hl hk
  go_enter Try.func4, Try.ntmps4
  go_upto_region 5 with (first
      | (go_at_call 7; refine (few_at A l0.length c _ hc hm).mono ?_; rintro e w' ⟨rfl, rfl⟩; rw [HLEN.out])
      | (go_at_call 8; refine (first_at A c l k _ (Kd.C_below HC.out HB0.out) hlc (by omega) hkn).mono ?_; rintro e w1 ⟨B, b, rfl, h1, h2, hb⟩; have HO1 := Aside0.mk h2; have HL1 := Aside0.mk h1; have HB1 := Aside0.mk (HB0.out.trans (hb.mono HB0.out.size)); have HD1 := Aside0.mk hb; have HE1 := Aside0.mk (Below.refl w1.heap.size w1); clear hb h1 h2))
  have bx := blk_below (blk_new w (dob d)) HD1.out
  have a0 : w1.cell? ⟨w.heap.size, 0, none⟩ = some (.int .i64 d.f0) := blk_cell bx 0
  have a1 : w1.cell? ⟨w.heap.size, 1, none⟩ = some (.int .u64 d.f1) := blk_cell bx 1
  have HBX := Aside0.mk bx
  clear bx
  have hE0 := Below.refl w1.heap.size w1
  have F1 : Aside0 (((w1.alloc (.cells #[] 24)).drew).heap[w1.heap.size]? = some (.cells #[] 24 (0, 0))) := ⟨heap_alloc_new w1 _⟩
  have F2 : Aside0 ((((w1.alloc (.cells #[] 24)).alloc (dob d)).drew).heap[w1.heap.size]? = some (.cells #[] 24 (0, 0))) := ⟨blk_alloc (heap_alloc_new w1 _) _⟩
  have G2 : Aside0 ((((w1.alloc (.cells #[] 24)).alloc (dob d)).drew).heap[w1.heap.size + 1]? = some (dob d)) := ⟨by
    have := heap_alloc_new (w1.alloc (.cells #[] 24)) (dob d)
    rwa [World.size_alloc] at this⟩
  have F3 : Aside0 ((((w1.alloc (dob d)).alloc (.cells #[] 24)).drew).heap[w1.heap.size + 1]? = some (.cells #[] 24 (0, 0))) := ⟨by
    have := heap_alloc_new (w1.alloc (dob d)) (.cells #[] 24)
    rwa [World.size_alloc] at this⟩
  have G3 : Aside0 ((((w1.alloc (dob d)).alloc (.cells #[] 24)).drew).heap[w1.heap.size]? = some (dob d)) := ⟨blk_alloc (heap_alloc_new w1 _) _⟩
  have B1 : Aside0 (Below w1.heap.size w1 (w1.alloc (.cells #[] 24)).drew) := ⟨((Below.refl w1.heap.size w1).alloc (Nat.le_refl _) _).drew⟩
  have B2 : Aside0 (Below w1.heap.size w1 ((w1.alloc (.cells #[] 24)).alloc (dob d)).drew) := ⟨(((Below.refl w1.heap.size w1).alloc (Nat.le_refl _) _).alloc (by simp) _).drew⟩
  have B3 : Aside0 (Below w1.heap.size w1 ((w1.alloc (dob d)).alloc (.cells #[] 24)).drew) := ⟨(((Below.refl w1.heap.size w1).alloc (Nat.le_refl _) _).alloc (by simp) _).drew⟩
  have D1 : Aside0 (Below w1.heap.size w1 (w1.alloc (dob d)).drew) := ⟨((Below.refl w1.heap.size w1).alloc (Nat.le_refl _) _).drew⟩
  have hC1 := Kd.C_below HC.out HB1.out
  have C1 := Aside0.mk (Kd.C_below hC1 B1.out)
  have C2 := Aside0.mk (Kd.C_below hC1 B2.out)
  have C3 := Aside0.mk (Kd.C_below hC1 B3.out)
  clear hC1
  go_cut [10] (fun v10 wc => ∃ (A3 : Option Addr) (c3 : Nat), v10 = .slice A3 (l.length + 1) c3 ∧ Aside0 (l.length + 1 ≤ c3) ∧ Aside0 (Kd.C k24 wc A3 (l.length + 1) (srt ltB (l ++ [d]))) ∧ Aside0 (Below w1.heap.size w1 wc))
  case first => as_aux_lemma =>
    have T : (fun w' : World => Below w1.heap.size w1 w' ∧ w'.cell? ⟨w.heap.size, 0, none⟩ = some (.int .i64 d.f0) ∧ w'.cell? ⟨w.heap.size, 1, none⟩ = some (.int .u64 d.f1)) w1.drew := by
      (go_split_ands; refine ⟨?_, ?_, ?_⟩ <;> first | exact Below.drew (by assumption) | go_keep | assumption)
    go_region_held3 (fun w' => Below w1.heap.size w1 w' ∧ w'.cell? ⟨w.heap.size, 0, none⟩ = some (.int .i64 d.f0) ∧ w'.cell? ⟨w.heap.size, 1, none⟩ = some (.int .u64 d.f1))
      (first | exact ⟨HB4.out, pw_cell_below HB4.out a0, pw_cell_below HB4.out a1⟩ | exact ⟨B1.out, pw_cell_below B1.out a0, pw_cell_below B1.out a1⟩ | exact ⟨B2.out, pw_cell_below B2.out a0, pw_cell_below B2.out a1⟩ | exact ⟨B3.out, pw_cell_below B3.out a0, pw_cell_below B3.out a1⟩ | exact ⟨D1.out, pw_cell_below D1.out a0, pw_cell_below D1.out a1⟩ | exact ⟨hb3, pw_cell_below hb3 a0, pw_cell_below hb3 a1⟩ | exact ⟨hb2, pw_cell_below hb2 a0, pw_cell_below hb2 a1⟩ | exact ⟨(Below.alloc hb2 hb2.size _), pw_cell_below (Below.alloc hb2 hb2.size _) a0, pw_cell_below (Below.alloc hb2 hb2.size _) a1⟩ | go_keep)
      (first
        | (refine step_first (by rfl) _ _ (by rfl) w1 A c l w1.heap.size (by rfl) (by rfl) (by first | exact F1.out | exact F2.out) (by omega) (by first | exact C1.out | exact C2.out) (by first | exact B1.out | exact B2.out) (by omega) ?_; intro A1 c1 w2 hl1 hr1 hb2 hf2 hk2; have HR1 := Aside0.mk hr1; have HB2 := Aside0.mk hb2; have HF2 := Aside0.mk hf2; have HK2 := Aside0.mk hk2; clear hr1 hf2 hk2)
        | (refine step_first (by rfl) _ _ (by rfl) w1 A c l (w1.heap.size + 1) (by rfl) (by rfl) (by exact F3.out) (by omega) (by exact C3.out) (by exact B3.out) (by omega) ?_; intro A1 c1 w2 hl1 hr1 hb2 hf2 hk2; have HR1 := Aside0.mk hr1; have HB2 := Aside0.mk hb2; have HF2 := Aside0.mk hf2; have HK2 := Aside0.mk hk2; clear hr1 hf2 hk2)
        | (refine step_second (by rfl) _ _ (by rfl) w1 A1 c1 l d w2.heap.size (by rfl) (by rfl) (by exact heap_alloc_new w2 (dob d)) (by exact row_below HR1.out (Below.alloc (Below.refl w2.heap.size w2) (Nat.le_refl _) _)) (by exact Below.alloc hb2 hb2.size _) (by omega) ?_; intro A2 c2 w3 hl2 hc2 hb3; have HC2 := Aside0.mk hc2; clear hc2)
        | (refine step_second (by rfl) _ _ (by rfl) w1 A1 c1 l d (w1.heap.size + 1) (by rfl) (by rfl) (by exact HF2.out.blk G2.out (by omega)) (by exact HR1.out) (by exact hb2) (by omega) ?_; intro A2 c2 w3 hl2 hc2 hb3; have HC2 := Aside0.mk hc2; clear hc2)
        | (refine step_second (by rfl) _ _ (by rfl) w1 A1 c1 l d w1.heap.size (by rfl) (by rfl) (by exact HF2.out.blk G3.out (by omega)) (by exact HR1.out) (by exact hb2) (by omega) ?_; intro A2 c2 w3 hl2 hc2 hb3; have HC2 := Aside0.mk hc2; clear hc2)
        | (go_at_call 13; refine (sortedN_at A2 c2 (l ++ [d]) _ (l.length + 1) (by simp) HC2.out hl2 (by omega)).mono ?_; rintro e w4 ⟨A3, c3, rfl, h1, h2, hb4⟩; have HL3 := Aside0.mk h1; have HC3 := Aside0.mk h2; have HB4 := Aside0.mk (hb3.trans (hb4.mono hb3.size)); clear h1 h2))
    all_goals
      go_wp2
      go_meet
      case rel => exact ⟨A3, c3, rfl, HL3, HC3, HB4⟩
  case rest =>
    obtain ⟨A3, c3, rfl, HL3, HC3, HB3⟩ := hcut
    have HD3 := Aside0.mk (HB1.out.trans (HB3.out.mono HB1.out.size))
    clear a0 a1 hE0 F1 F2 G2 F3 G3 B1 B2 B3 D1 C1 C2 C3 t1 t2 t3 ht hk2
    obtain ⟨i0, hi0, _, _, _⟩ := info_parts info24
    have hlast : Aside0 (∀ wx : World, Below w1.heap.size w1 wx → wx.cell? ⟨w.heap.size, 0, none⟩ = some (.int .i64 d.f0) ∧ wx.cell? ⟨w.heap.size, 1, none⟩ = some (.int .u64 d.f1)) := ⟨fun wx h => ⟨blk_cell (blk_below HBX.out h) 0, blk_cell (blk_below HBX.out h) 1⟩⟩
    go_upto_if 60 with (go_at_call 14; refine (alive_at _).mono ?_; rintro e w4 ⟨rfl, hb⟩; have HB4 := Aside0.mk (HB3.out.trans (hb.mono HB3.out.size)); have HC4 := Aside0.mk (Kd.C_below HC3.out hb); have HD4 := Aside0.mk hb; clear hb)
    go_cut [6] (fun v6 wc => v6 = .bool false ∧ Aside0 (Below w4.heap.size w4 wc))
    case first => as_aux_lemma =>
      by_cases hkl : k < l.length
      · have d1 : decide (k < l.length) = true := decide_eq_true hkl
        go_wp2_with (first
          | (go_at_call 8; refine (first_at' A c l _ (k + 1) _ (by omega) (Kd.C_below HC.out (HB1.out.trans (HB4.out.mono HB1.out.size))) hlc (by omega) hkl).mono ?_; rintro e w5 ⟨B5, b5, rfl, h1, h2, hb⟩; have HO5 := Aside0.mk h2; have HL5 := Aside0.mk h1; have HD5 := Aside0.mk hb; have hcut := cut_to (P := Try.prog) 25 24 .i64 Try.underlying25 hi0 B5 (k + 1) b5 (k : Int) (by omega) (by omega) h1; rw [Int.toNat_natCast] at hcut; clear hb h1 h2)
          | (go_at_call 12; refine (sameN_at B5 B b5 b k ((srt ltB l).take k) _ (take_C HO5.out) (by have := HL5.out; omega) (Kd.C_below HO1.out (HB4.out.trans (HD5.out.mono HB4.out.size))) HL1.out (by omega)).mono ?_; rintro e w6 ⟨rfl, hb⟩; have HD6 := Aside0.mk (HD5.out.trans (hb.mono HD5.out.size)); clear hb))
        go_meet
        case rel => exact ⟨rfl, HD6⟩
      · have d1 : decide (k < l.length) = false := decide_eq_false hkl
        go_wp2
        go_meet
        case rel => exact ⟨rfl, ⟨Below.refl _ _⟩⟩
    case rest =>
      obtain ⟨rfl, HE5⟩ := hcut
      obtain ⟨S3, hS3⟩ : ∃ S3, srt ltB (l ++ [d]) = S3 := ⟨_, rfl⟩
      have hn3 : S3.length = l.length + 1 := by rw [← hS3, srt_length]; simp
      have HORD : Aside0 (∀ i j x y, i < j → S3[i]? = some x → S3[j]? = some y → ltB y x = false) := ⟨by
        intro i j x y hij hx hy
        have ho : Plain.Ord ltB S3 := by rw [← hS3]; exact srt_ord ltO _
        obtain ⟨hi, rfl⟩ := List.getElem?_eq_some_iff.1 hx
        obtain ⟨hj, rfl⟩ := List.getElem?_eq_some_iff.1 hy
        exact List.pairwise_iff_getElem.1 ho i j hi hj hij⟩
      have hc4 := HC4.out
      rw [hS3] at hc4
      have HC5 := Aside0.mk hc4
      have HN3 := Aside0.mk hn3
      have hdd : ltB d d = false := ltO.irr d
      clear hS3 hc4 hn3 hi0
      go_wp2
      go_loopw [87] (fun v87 W => ∃ i : Nat, i ≤ l.length + 1 ∧ v87 = .int .i64 i ∧ Aside0 (Below w4.heap.size w4 W)) (fun v87 _ => l.length + 1 - (intOf v87).toNat)
      case atStart => exact ⟨0, Nat.zero_le _, rfl, HE5⟩
      case round => as_aux_lemma =>
        clear HE5
        obtain ⟨i, hi, rfl, HE⟩ := hrel
        by_cases hlt : i < l.length + 1
        · by_cases h0 : i = 0
          · subst h0
            go_wp2
            go_quiet (fail)
            go_wp2
            go_roundw
            case rel => exact ⟨1, by omega, rfl, ⟨HE.out.trans (Below.mono (pw_below_drewN (Below.refl wr.heap.size wr) _) HE.out.size)⟩⟩
            case measure => simp [intOf]
          · obtain ⟨j, hj⟩ : ∃ j : Nat, i = j + 1 := ⟨i - 1, by omega⟩
            obtain ⟨x, hx⟩ : ∃ x, S3[i]? = some x := ⟨_, List.getElem?_eq_getElem (by have := HN3.out; omega)⟩
            obtain ⟨y, hy⟩ : ∃ y, S3[j]? = some y := ⟨_, List.getElem?_eq_getElem (by have := HN3.out; omega)⟩
            have hnx : ltB x y = false := HORD.out j i y x (by omega) hy hx
            obtain ⟨ad, hA, x0, x1⟩ := at_T24 (Kd.C_below HC5.out HE.out) (i : Int) (by omega) (by omega)
            obtain ⟨ad', hA', y0, y1⟩ := at_T24 (Kd.C_below HC5.out HE.out) (j : Int) (by omega) (by omega)
            subst hA
            obtain rfl : ad = ad' := by injection hA'
            rw [rd_at hx, Int.toNat_natCast] at x0 x1
            rw [rd_at hy, Int.toNat_natCast] at y0 y1
            have hij : (i : Int) - 1 = (j : Int) := by omega
            have hwr : IntKind.i64.wrap ((i : Int) - 1) = (j : Int) := by rw [← hij]; exact IntWalk.i64_in _ (by omega)
            have dpos : decide ((0 : Int) < (i : Int)) = true := decide_eq_true (by omega)
            have dpos2 : decide (0 < i) = true := decide_eq_true (by omega)
            have b1 : (0 : Int) ≤ (i : Int) := by omega
            have b2 : (i : Int) < (l.length : Int) + 1 := by omega
            have b3 : (0 : Int) ≤ (j : Int) := by omega
            have b5 : j < l.length + 1 := by omega
            have b6 : (j : Int) < ((l.length + 1 : Nat) : Int) := by omega
            have b4 : (j : Int) < (l.length : Int) + 1 := by omega
            have hbl := World.block_lt_of_cell? wr _ x0
            have HX := Aside0.mk hx
            have HY := Aside0.mk hy
            have HJ := Aside0.mk hj
            clear hx hy hj h0 hij
            have hR0 := Below.refl wr.heap.size wr
            have DR1 : Aside0 (Below wr.heap.size wr wr.drew) := ⟨(Below.refl wr.heap.size wr).drew⟩
            go_wp2
            go_region_held3 (fun w' => Below wr.heap.size wr w' ∧ w'.cell? (ad.add (i * 2)) = some (.int .i64 x.f0) ∧ w'.cell? ⟨(ad.add (i * 2)).block, (ad.add (i * 2)).off + 1, none⟩ = some (.int .u64 x.f1) ∧ w'.cell? (ad.add (j * 2)) = some (.int .i64 y.f0) ∧ w'.cell? ⟨(ad.add (j * 2)).block, (ad.add (j * 2)).off + 1, none⟩ = some (.int .u64 y.f1))
              (first | exact ⟨DR1.out, x0, x1, y0, y1⟩ | exact ⟨HW5.out, pw_cell_below HW5.out x0, pw_cell_below HW5.out x1, pw_cell_below HW5.out y0, pw_cell_below HW5.out y1⟩ | go_keep)
              ((go_at_call 10; refine (before_calls x y _).mono ?_; rintro e w5 ⟨rfl, hb⟩; rw [hnx]; have HW5 := Aside0.mk (drew_tr hb)))
            all_goals
              go_wp2
              go_roundw
              case rel => exact ⟨i + 1, by omega, by go_num, ⟨HE.out.trans (HW5.out.mono HE.out.size)⟩⟩
              case measure => simp [intOf]; omega
        · obtain rfl : i = l.length + 1 := by omega
          obtain ⟨a0, a1⟩ := hlast.out wr (HB4.out.trans (HE.out.mono HB4.out.size))
          go_wp2_with (go_at_call 10; refine (before_calls d d _).mono ?_; rintro e w5 ⟨rfl, hb⟩; rw [hdd]; have HW5 := Aside0.mk hb; clear hb)
          go_ret
          have h1 := HB1.out.trans (HB4.out.mono HB1.out.size)
          have h2 := h1.trans (HE.out.mono h1.size)
          exact ⟨rfl, h2.trans (HW5.out.mono h2.size)⟩
end Go.Proofs.Ytdkmmfhieapbaaa.Own

/-
  sched.Right, walked by hand: whether a system may be.
-/
import Derived.Test.YthnimpbcfegmjaaS2
namespace Go.Proofs.Ythnimpbcfegmjaa.Own
open Go.RowKit Go.Proofs.YthnimpbcfegmjaaW.PrintWords Go.Proofs.YthnimpbcfegmjaaW.PrintLast Go.Proofs.YthnimpbcfegmjaaW.PrintMore Go.Proofs.Ythnimpbcfegmjaa.P Go.Proofs.Ythnimpbcfegmjaa.Model
set_option linter.unusedVariables false

/-- Where a system's slices lie. -/
structure Ad where
  a0 : Option Addr
  c0 : Nat
  a1 : Option Addr
  c1 : Nat
  a2 : Option Addr
  c2 : Nat
  a3 : Option Addr
  c3 : Nat
  a4 : Option Addr
  c4 : Nat
  a5 : Option Addr
  c5 : Nat
def Ad.none : Ad := ⟨Option.none, 0, Option.none, 0, Option.none, 0, Option.none, 0, Option.none, 0, Option.none, 0⟩
def sysA (s : Syst) (p : Ad) : Array Value := #[.slice p.a0 s.th.length p.c0, .slice p.a1 s.at_.length p.c1, .slice p.a2 s.su.length p.c2, .slice p.a3 s.lo.length p.c3, .slice p.a4 s.ce.length p.c4, .slice p.a5 s.ch.length p.c5]
/-- A system that is read. -/
structure SysC (w : World) (s : Syst) (p : Ad) : Prop where
  r0 : CT w p.a0 s.th
  h0 : s.th.length ≤ p.c0
  r1 : CI w p.a1 s.at_
  h1 : s.at_.length ≤ p.c1
  r2 : CI w p.a2 s.su
  h2 : s.su.length ≤ p.c2
  r3 : CI w p.a3 s.lo
  h3 : s.lo.length ≤ p.c3
  r4 : CI w p.a4 s.ce
  h4 : s.ce.length ≤ p.c4
  r5 : CR w p.a5 s.ch
  h5 : s.ch.length ≤ p.c5
theorem SysC.below {w w1 : World} {s : Syst} {p : Ad} (h : SysC w s p) (hb : Below w.heap.size w w1) : SysC w1 s p :=
  ⟨Kd.C_below h.r0 hb, h.h0, Kd.C_below h.r1 hb, h.h1, Kd.C_below h.r2 hb, h.h2, Kd.C_below h.r3 hb, h.h3, Kd.C_below h.r4 hb, h.h4, Kd.C_below h.r5 hb, h.h5⟩
/-- Not too great. -/
structure Bd (s : Syst) : Prop where
  n0 : s.th.length ≤ 100
  n1 : s.at_.length ≤ 100
  n2 : s.su.length ≤ 100
  n3 : s.lo.length ≤ 100
  n4 : s.ce.length ≤ 100
  n5 : s.ch.length ≤ 100
  t : ∀ l : List S44, l ∈ s.th → l.length ≤ 100
  c : ∀ l : List Int, l ∈ s.ch → l.length ≤ 100
theorem rdT {l : List (List S44)} {i : Nat} {x : List S44} (h : l[i]? = some x) : rd_L2 l (i : Int) = x := by unfold rd_L2; rw [Int.toNat_natCast, List.getD_eq_getElem?_getD, h]; rfl
theorem numB_eq (s : Syst) : numB s = ((s.su ++ s.ce) ++ s.ch.flatten).all smB := rfl
/-- The first so many threads may be. -/
def thsTo (s : Syst) (k : Nat) : Bool := ((s.th.zip s.at_).take k).all (fun p => thB p.1 p.2)
theorem thsTo_succ {s : Syst} {k : Nat} {l : List S44} {a : Int} (hl : s.th[k]? = some l) (ha : s.at_[k]? = some a) : thsTo s (k + 1) = (thsTo s k && thB l a) := by
  unfold thsTo
  have h : (s.th.zip s.at_)[k]? = some (l, a) := by rw [List.getElem?_zip_eq_some]; exact ⟨hl, ha⟩
  rw [take_snoc h, List.all_append]
  simp
theorem thsTo_bad {s : Syst} {k : Nat} {l : List S44} {a : Int} (hl : s.th[k]? = some l) (ha : s.at_[k]? = some a) (hb : thB l a = false) : thsB s = false := by
  have h : (s.th.zip s.at_)[k]? = some (l, a) := by rw [List.getElem?_zip_eq_some]; exact ⟨hl, ha⟩
  exact List.all_eq_false.mpr ⟨(l, a), List.mem_of_getElem? h, by simpa using hb⟩
theorem flat_two (l m : List Int) : [l, m].flatten = l ++ m := by simp
/-- A slice of two slices, just built. -/
theorem two_CR {w : World} {g : Nat} {A B : Option Addr} {c d : Nat} {l m : List Int} (hb : w.heap[g]? = some (.cells #[.slice A l.length c, .slice B m.length d] 23 (0, 0))) (hA : CI w A l) (hc : l.length ≤ c) (hB : CI w B m) (hd : m.length ≤ d) : CR w (some ⟨g, 0, none⟩) [l, m] := by
  refine ⟨rfl, by simp, fun _ => ⟨_, rfl, fun j p hj => ?_⟩⟩
  match j, hj with
  | 0, hj =>
    obtain rfl : l = p := by simpa using hj
    refine ⟨[.slice A l.length c], rfl, ⟨A, c, rfl, hc, hA⟩, fun i u hu => ?_⟩
    match i, hu with
    | 0, hu => rw [add_plain, blk_cell hb]; exact hu
  | 1, hj =>
    obtain rfl : m = p := by simpa using hj
    refine ⟨[.slice B m.length d], rfl, ⟨B, d, rfl, hd, hB⟩, fun i u hu => ?_⟩
    match i, hu with
    | 0, hu => rw [add_plain, blk_cell hb]; exact hu
  | j + 2, hj => simp at hj
theorem len_flat2 (l : List (List Int)) (h : ∀ x, x ∈ l → x.length ≤ 2) : l.flatten.length ≤ 2 * l.length := by
  induction l with
  | nil => simp
  | cons x l ih =>
    have h1 := ih fun y hy => h y (List.mem_cons_of_mem _ hy)
    have h2 := h x (List.mem_cons_self)
    rw [List.flatten_cons, List.length_append, List.length_cons]
    omega
set_option maxRecDepth 100000 in
set_option maxHeartbeats 16000000 in
theorem right_calls (s : Syst) (p : Ad) (w : World) (hC : SysC w s p) (hbd : Bd s) : Calls Try.prog 20 #[.agg (sysA s p)] w fun e w' => e = .returned (.bool (rightB s)) ∧ Below w.heap.size w w' := by
  have HC := Aside0.mk hC
  have HBD := Aside0.mk hbd
  have HB0 : Aside0 (Below w.heap.size w (w.alloc (.cells (sysA s p) 26))) := ⟨(Below.refl _ _).alloc (Nat.le_refl _) _⟩
  have n0 := hbd.n0
  have n1 := hbd.n1
  have n2 := hbd.n2
  have n3 := hbd.n3
  have n4 := hbd.n4
  have n5 := hbd.n5
  clear hC hbd
  obtain ⟨a0, c0, a1, c1, a2, c2, a3, c3, a4, c4, a5, c5⟩ := p
  unfold sysA at *
  dsimp only at *
  by_cases k0 : s.th.length ≤ 8
  case neg =>
    have hR : rightB s = false := by unfold rightB lenB; simp [k0]
    have d0 : decide ((8 : Int) < (s.th.length : Int)) = true := decide_eq_true (by omega)
    rw [hR]
    clear hR k0
    go_enter Try.func20, Try.ntmps20
    go_wp2
    go_ret
    exact ⟨rfl, HB0.out⟩
  have d0 : decide ((8 : Int) < (s.th.length : Int)) = false := decide_eq_false (by omega)
  have K0 := Aside0.mk k0
  clear k0
  by_cases k1 : s.at_.length = s.th.length
  case neg =>
    have hR : rightB s = false := by unfold rightB lenB; simp [k1]
    have d1 : ((s.at_.length : Int) != (s.th.length : Int)) = true := bne_iff_ne.mpr (by omega)
    rw [hR]
    clear hR k1
    go_enter Try.func20, Try.ntmps20
    go_wp2
    go_ret
    exact ⟨rfl, HB0.out⟩
  have d1 : ((s.at_.length : Int) != (s.th.length : Int)) = false := bne_eq_false_iff_eq.mpr (by omega)
  have K1 := Aside0.mk k1
  clear k1
  by_cases k2 : s.su.length = s.th.length
  case neg =>
    have hR : rightB s = false := by unfold rightB lenB; simp [k2]
    have d2 : ((s.su.length : Int) != (s.th.length : Int)) = true := bne_iff_ne.mpr (by omega)
    rw [hR]
    clear hR k2
    go_enter Try.func20, Try.ntmps20
    go_wp2
    go_ret
    exact ⟨rfl, HB0.out⟩
  have d2 : ((s.su.length : Int) != (s.th.length : Int)) = false := bne_eq_false_iff_eq.mpr (by omega)
  have K2 := Aside0.mk k2
  clear k2
  by_cases k3 : s.lo.length = 4
  case neg =>
    have hR : rightB s = false := by unfold rightB lenB; simp [k3]
    have d3 : ((s.lo.length : Int) != 4) = true := bne_iff_ne.mpr (by omega)
    rw [hR]
    clear hR k3
    go_enter Try.func20, Try.ntmps20
    go_wp2
    go_ret
    exact ⟨rfl, HB0.out⟩
  have d3 : ((s.lo.length : Int) != 4) = false := bne_eq_false_iff_eq.mpr (by omega)
  have K3 := Aside0.mk k3
  clear k3
  by_cases k4 : s.ce.length = 4
  case neg =>
    have hR : rightB s = false := by unfold rightB lenB; simp [k4]
    have d4 : ((s.ce.length : Int) != 4) = true := bne_iff_ne.mpr (by omega)
    rw [hR]
    clear hR k4
    go_enter Try.func20, Try.ntmps20
    go_wp2
    go_ret
    exact ⟨rfl, HB0.out⟩
  have d4 : ((s.ce.length : Int) != 4) = false := bne_eq_false_iff_eq.mpr (by omega)
  have K4 := Aside0.mk k4
  clear k4
  by_cases k5 : s.ch.length = 4
  case neg =>
    have hR : rightB s = false := by unfold rightB lenB; simp [k5]
    have d5 : ((s.ch.length : Int) != 4) = true := bne_iff_ne.mpr (by omega)
    rw [hR]
    clear hR k5
    go_enter Try.func20, Try.ntmps20
    go_wp2
    go_ret
    exact ⟨rfl, HB0.out⟩
  have d5 : ((s.ch.length : Int) != 4) = false := bne_eq_false_iff_eq.mpr (by omega)
  have K5 := Aside0.mk k5
  clear k5
  have hR : rightB s = (thsB s && (loB s && (chB s && numB s))) := by unfold rightB lenB; simp [K0.out, K1.out, K2.out, K3.out, K4.out, K5.out]
  rw [hR]
  clear hR
  go_enter Try.func20, Try.ntmps20
  go_wp2
  have HD0 : Aside0 (Below (w.alloc (.cells #[.slice a0 s.th.length c0, .slice a1 s.at_.length c1, .slice a2 s.su.length c2, .slice a3 s.lo.length c3, .slice a4 s.ce.length c4, .slice a5 s.ch.length c5] 26)).heap.size (w.alloc (.cells #[.slice a0 s.th.length c0, .slice a1 s.at_.length c1, .slice a2 s.su.length c2, .slice a3 s.lo.length c3, .slice a4 s.ce.length c4, .slice a5 s.ch.length c5] 26)) (w.alloc (.cells #[.slice a0 s.th.length c0, .slice a1 s.at_.length c1, .slice a2 s.su.length c2, .slice a3 s.lo.length c3, .slice a4 s.ce.length c4, .slice a5 s.ch.length c5] 26))) := ⟨Below.refl _ _⟩
  have HG := Aside0.mk (blk_new w (.cells #[.slice a0 s.th.length c0, .slice a1 s.at_.length c1, .slice a2 s.su.length c2, .slice a3 s.lo.length c3, .slice a4 s.ce.length c4, .slice a5 s.ch.length c5] 26))
  generalize w.alloc (.cells #[.slice a0 s.th.length c0, .slice a1 s.at_.length c1, .slice a2 s.su.length c2, .slice a3 s.lo.length c3, .slice a4 s.ce.length c4, .slice a5 s.ch.length c5] 26) = w1 at *
  clear d0 d1 d2 d3 d4 d5
  go_loopw [51] (fun v51 W => ∃ k : Nat, k ≤ s.th.length ∧ v51 = .int .i64 k ∧ Aside0 (thsTo s k = true) ∧ Aside0 (Below w1.heap.size w1 W)) (fun v51 _ => s.th.length - (intOf v51).toNat)
  case atStart => exact ⟨0, Nat.zero_le _, rfl, ⟨rfl⟩, HD0⟩
  case round => as_aux_lemma =>
    clear HD0
    obtain ⟨k, hk, rfl, HT, HD⟩ := hrel
    have hg := blk_below HG.out HD.out
    have q1 : wr.cell? ⟨w.heap.size, 1, none⟩ = some (.slice a1 s.at_.length c1) := blk_cell hg 1
    have q3 : wr.cell? ⟨w.heap.size, 3, none⟩ = some (.slice a3 s.lo.length c3) := blk_cell hg 3
    by_cases hlt : k < s.th.length
    · obtain ⟨l, hl⟩ : ∃ l, s.th[k]? = some l := ⟨_, List.getElem?_eq_getElem hlt⟩
      have hk1 : k < s.at_.length := by have := K1.out; omega
      obtain ⟨a, ha⟩ : ∃ a, s.at_[k]? = some a := ⟨_, List.getElem?_eq_getElem hk1⟩
      have hCw := HC.out.below (HB0.out.trans (HD.out.mono HB0.out.size))
      obtain ⟨ad, A1, cc, e0, t0, t1, t2⟩ := at_L2 hCw.r0 (k : Int) (by omega) (by omega)
      obtain ⟨ad1, e1, t3⟩ := Kd.at_int hCw.r1 (k : Int) (by omega) (by omega)
      have e0' : a0 = some ad := e0
      have e1' : a1 = some ad1 := e1
      subst e0' e1'
      rw [rdT hl] at t0 t1 t2
      rw [rdI ha] at t3
      rw [Int.toNat_natCast] at t0 t3
      have HL := Aside0.mk hl
      have HA := Aside0.mk ha
      have HCL := Aside0.mk t2
      have HTS := Aside0.mk (thsTo_succ hl ha)
      have hl100 : l.length ≤ 100 := HBD.out.t l (List.mem_of_getElem? hl)
      clear hCw t1 t2 hl ha hg e0 e1
      by_cases h16 : l.length ≤ 16
      · have d0 : decide ((16 : Int) < (l.length : Int)) = false := decide_eq_false (by omega)
        cases hin : inB a 0 l.length with
        | false =>
          have HIN := Aside0.mk hin
          clear hin
          go_wp2_with (go_at_call 38; refine (in_calls _ _ _ _).mono ?_; rintro e w' ⟨rfl, rfl⟩; rw [HIN.out])
          go_ret
          exact ⟨by rw [thsTo_bad HL.out HA.out (by unfold thB; rw [HIN.out]; simp)]; rfl, HB0.out.trans (HD.out.mono HB0.out.size)⟩
        | true =>
          have HIN := Aside0.mk hin
          clear hin
          cases hal : l.all okI with
          | false =>
            have HAL := Aside0.mk hal
            clear hal
            go_wp2_with (first
              | (go_at_call 38; refine (in_calls _ _ _ _).mono ?_; rintro e w' ⟨rfl, rfl⟩; rw [HIN.out])
              | (go_at_call 39; refine (containsI_calls _ _ l _ HCL.out (by omega)).mono ?_; rintro e w2 ⟨rfl, hb⟩; rw [HAL.out]; have HD2 := Aside0.mk (HD.out.trans (hb.mono HD.out.size)); clear hb))
            go_ret
            exact ⟨by rw [thsTo_bad HL.out HA.out (by unfold thB; rw [HIN.out, HAL.out]; simp)]; rfl, HB0.out.trans (HD2.out.mono HB0.out.size)⟩
          | true =>
            have HAL := Aside0.mk hal
            have HT2 : Aside0 (thsTo s (k + 1) = true) := ⟨by rw [HTS.out, HT.out]; unfold thB; rw [HIN.out, hal]; simp [h16]⟩
            clear hal
            go_wp2_with (first
              | (go_at_call 38; refine (in_calls _ _ _ _).mono ?_; rintro e w' ⟨rfl, rfl⟩; rw [HIN.out])
              | (go_at_call 39; refine (containsI_calls _ _ l _ HCL.out (by omega)).mono ?_; rintro e w2 ⟨rfl, hb⟩; rw [HAL.out]; have HD2 := Aside0.mk (HD.out.trans (hb.mono HD.out.size)); clear hb))
            go_roundw
            case rel => exact ⟨k + 1, hlt, by go_num, HT2, HD2⟩
            case measure => simp [intOf]; omega
      · have d0 : decide ((16 : Int) < (l.length : Int)) = true := decide_eq_true (by omega)
        have HN16 := Aside0.mk h16
        clear h16
        go_wp2
        go_ret
        exact ⟨by rw [thsTo_bad HL.out HA.out (by unfold thB; simp [HN16.out])]; rfl, HB0.out.trans (HD.out.mono HB0.out.size)⟩
    · obtain rfl : k = s.th.length := by omega
      have HTH : Aside0 (thsB s = true) := ⟨by
        have h1 := HT.out
        unfold thsTo at h1
        rw [List.take_of_length_le (by rw [List.length_zip]; omega)] at h1
        exact h1⟩
      clear HT
      go_wp2
      go_loopw [78] (fun v78 W => ∃ k : Nat, k ≤ s.lo.length ∧ v78 = .int .i64 k ∧ W = wr ∧ Aside0 ((s.lo.take k).all (fun x => inB x (-1) ((s.th.length : Int) - 1)) = true)) (fun v78 _ => s.lo.length - (intOf v78).toNat)
      case atStart => exact ⟨0, Nat.zero_le _, rfl, rfl, ⟨rfl⟩⟩
      case round => as_aux_lemma =>
        obtain ⟨k, hk, rfl, rfl, HA⟩ := hrel
        by_cases hlt : k < s.lo.length
        · obtain ⟨x, hx⟩ : ∃ x, s.lo[k]? = some x := ⟨_, List.getElem?_eq_getElem hlt⟩
          have hCw := HC.out.below (HB0.out.trans (HD.out.mono HB0.out.size))
          obtain ⟨ad, e3, t0⟩ := Kd.at_int hCw.r3 (k : Int) (by omega) (by omega)
          have e3' : a3 = some ad := e3
          subst e3'
          rw [rdI hx, Int.toNat_natCast] at t0
          have HX := Aside0.mk hx
          clear hCw hx e3
          cases hin : inB x (-1) ((s.th.length : Int) - 1) with
          | false =>
            have HIN := Aside0.mk hin
            clear hin
            go_wp2_with (go_at_call 38; refine (in_calls _ _ _ _).mono ?_; rintro e w' ⟨rfl, rfl⟩; rw [HIN.out])
            go_ret
            have hlo : loB s = false := List.all_eq_false.mpr ⟨x, List.mem_of_getElem? HX.out, by rw [HIN.out]; simp⟩
            exact ⟨by rw [HTH.out, hlo]; rfl, HB0.out.trans (HD.out.mono HB0.out.size)⟩
          | true =>
            have HU : Aside0 ((s.lo.take (k + 1)).all (fun x => inB x (-1) ((s.th.length : Int) - 1)) = true) := ⟨by rw [take_snoc HX.out, List.all_append, HA.out]; simp [hin]⟩
            have HIN := Aside0.mk hin
            clear hin
            go_wp2_with (go_at_call 38; refine (in_calls _ _ _ _).mono ?_; rintro e w' ⟨rfl, rfl⟩; rw [HIN.out])
            go_roundw
            case rel => exact ⟨k + 1, hlt, by go_num, by first | trivial | rfl, HU⟩
            case measure => simp [intOf]; omega
        · obtain rfl : k = s.lo.length := by omega
          have HLO : Aside0 (loB s = true) := ⟨by have h1 := HA.out; rw [List.take_length] at h1; exact h1⟩
          clear HA
          have hg := blk_below HG.out HD.out
          have q2 : wr.cell? ⟨w.heap.size, 2, none⟩ = some (.slice a2 s.su.length c2) := blk_cell hg 2
          have q4 : wr.cell? ⟨w.heap.size, 4, none⟩ = some (.slice a4 s.ce.length c4) := blk_cell hg 4
          have HCw := Aside0.mk (HC.out.below (HB0.out.trans (HD.out.mono HB0.out.size)))
          have HDA : Aside0 (Below w.heap.size w (wr.alloc (.cells #[.slice a2 s.su.length c2, .slice a4 s.ce.length c4] 23))) := ⟨(HB0.out.trans (HD.out.mono HB0.out.size)).alloc (HB0.out.trans (HD.out.mono HB0.out.size)).size _⟩
          have HTW : Aside0 (CR (wr.alloc (.cells #[.slice a2 s.su.length c2, .slice a4 s.ce.length c4] 23)) (some ⟨wr.heap.size, 0, none⟩) [s.su, s.ce]) := ⟨two_CR (blk_new wr _) (Kd.C_below HCw.out.r2 ((Below.refl _ _).alloc (Nat.le_refl _) _)) HCw.out.h2 (Kd.C_below HCw.out.r4 ((Below.refl _ _).alloc (Nat.le_refl _) _)) HCw.out.h4⟩
          have hHG2 := blk_below hg ((Below.refl wr.heap.size wr).alloc (Nat.le_refl _) (.cells #[.slice a2 s.su.length c2, .slice a4 s.ce.length c4] 23))
          have HG2 := Aside0.mk hHG2
          clear hg HG hHG2
          go_wp2_with (go_at_call 29; refine (concat_calls (some ⟨wr.heap.size, 0, none⟩) 2 [s.su, s.ce] _ HTW.out (by simp; omega) (by simp)).mono ?_; rintro e w2 ⟨v, rfl, hr, hb⟩; rw [flat_two] at hr; have q5 : w2.cell? ⟨w.heap.size, 5, none⟩ = some (.slice a5 s.ch.length c5) := blk_cell (blk_below HG2.out hb) 5; have HRb := Aside0.mk (own_weaken hr HDA.out.size); have HB2 := Aside0.mk (HDA.out.trans (hb.mono HDA.out.size)); clear hr hb)
          clear q5 q2 q4
          go_loopw [8, 97] (fun v8 v97 W => ∃ k : Nat, k ≤ s.ch.length ∧ v97 = .int .i64 k ∧ Aside0 (RowI W w.heap.size v8 ((s.su ++ s.ce) ++ (s.ch.take k).flatten)) ∧ Aside0 (∀ l, l ∈ s.ch.take k → l.length ≤ 2) ∧ Aside0 (Below w.heap.size w W)) (fun _ v97 _ => s.ch.length - (intOf v97).toNat)
          case atStart => exact ⟨0, Nat.zero_le _, rfl, ⟨by rw [List.take_zero, List.flatten_nil, List.append_nil]; exact HRb.out⟩, ⟨by simp⟩, HB2⟩
          case round =>
            clear HRb HB2 HDA HTW HG2 HCw
            obtain ⟨k, hk, rfl, HR, HL, HB⟩ := hrel
            by_cases hlt : k < s.ch.length
            · obtain ⟨x, hx⟩ : ∃ x, s.ch[k]? = some x := ⟨_, List.getElem?_eq_getElem hlt⟩
              obtain ⟨ad, A1, cc, e5, h1, h2, h3⟩ := at_L3 (Kd.C_below HC.out.r5 HB.out) (k : Int) (by omega) (by omega)
              have e5' : a5 = some ad := e5
              subst e5'
              rw [rdL hx] at h1 h2 h3
              rw [Int.toNat_natCast] at h1
              have HX := Aside0.mk hx
              have HX3 := Aside0.mk h3
              clear e5 hx h3
              have hx100 : x.length ≤ 100 := HBD.out.c x (List.mem_of_getElem? HX.out)
              by_cases hx2 : x.length ≤ 2
              · have d0 : decide ((2 : Int) < (x.length : Int)) = false := decide_eq_false (by omega)
                have HX2 := Aside0.mk hx2
                clear hx2
                have hfl := len_flat2 (s.ch.take k) HL.out
                rw [List.length_take] at hfl
                have hle : ((s.su ++ s.ce) ++ (s.ch.take k).flatten).length + x.length ≤ 1000000 := by rw [List.length_append, List.length_append]; omega
                have HLE := Aside0.mk hle
                clear hfl hle
                go_wp2_with (at_builtin; refine hold ?_)
                refine ⟨?_⟩
                refine app_ints rfl _ _ rfl w w.heap.size _ _ x A1 x.length cc rfl rfl HR.out HX3.out HB.out HB.out.size HLE.out ?_
                intro v1 w2 hr hb _ _
                rw [List.append_assoc, ← flatten_snoc HX.out] at hr
                have HR2 := Aside0.mk hr
                have HBB := Aside0.mk hb
                clear hr hb
                go_wp2
                go_roundw
                case rel => exact ⟨k + 1, hlt, by go_num, HR2, ⟨fun l hl => by rw [take_snoc HX.out] at hl; rcases List.mem_append.1 hl with h | h; exact HL.out l h; obtain rfl := List.mem_singleton.1 h; exact HX2.out⟩, HBB⟩
                case measure => simp [intOf]; omega
              · have d0 : decide ((2 : Int) < (x.length : Int)) = true := decide_eq_true (by omega)
                have HX2 := Aside0.mk hx2
                clear hx2
                go_wp2
                go_ret
                have hch : chB s = false := List.all_eq_false.mpr ⟨x, List.mem_of_getElem? HX.out, by simp [HX2.out]⟩
                exact ⟨by rw [HTH.out, HLO.out, hch]; rfl, HB.out⟩
            · obtain rfl : k = s.ch.length := by omega
              have HCH : Aside0 (chB s = true) := ⟨List.all_eq_true.mpr fun l hl => decide_eq_true (HL.out l (by rw [List.take_length]; exact hl))⟩
              have hfl := len_flat2 s.ch (fun l hl => HL.out l (by rw [List.take_length]; exact hl))
              have hr := HR.out
              rw [List.take_length] at hr
              have HNL : Aside0 (((s.su ++ s.ce) ++ s.ch.flatten).length ≤ 100000) := ⟨by rw [List.length_append, List.length_append]; omega⟩
              have HNB : Aside0 (numB s = ((s.su ++ s.ce) ++ s.ch.flatten).all smB) := ⟨numB_eq s⟩
              clear HR hfl
              generalize (s.su ++ s.ce) ++ s.ch.flatten = N9 at hr HNL HNB
              obtain ⟨A9, c9, rfl, _, hc9⟩ := rowI_C hr
              have HC9 := Aside0.mk hc9
              clear hr hc9
              go_wp2_with (go_at_call 42; refine (containsN_calls A9 c9 _ _ HC9.out HNL.out).mono ?_; rintro e w' ⟨rfl, rfl⟩)
              go_ret
              exact ⟨by rw [HTH.out, HLO.out, HCH.out, HNB.out]; simp, HB.out⟩
end Go.Proofs.Ythnimpbcfegmjaa.Own

/-
  degree.Pick, walked by hand with sort.Search and its closure: it answers what the plain function 'degree_Pick.f' tells.
-/
import Derived.Test.YtjgcfdiicjbdoaaProg
import Derived.Below
import Derived.Deep.Draws
import Derived.Deep.AppendLies
import Derived.Maps.AppendAt
import Derived.OwnWalk
import Derived.Laws.BytesArg
import Derived.Laws.MakeOwn
import Derived.Laws.OwnMore
import Derived.Deep.OwnRows
import Derived.Tactics
import Derived.Lib.ConvBytes
import Derived.Laws.Slices
import Derived.WalkKit
import Derived.KernelRfl
import Derived.RowKit3
import Derived.Deep.LoopGhost
import Derived.Deep.QuietTactic
import Derived.BigQuiet
import Derived.WideLaws
import Derived.Deep.DeepCutAuto
import Derived.Deep.CutBlock
import Derived.Deep.RegionHeld3
import Derived.Laws.Rows
import Derived.Lib.AppendStr
import Derived.ArgAppend
import Derived.Laws.IdiomCopy
import Derived.OrdersHeld
import Derived.Laws.BitsLemmas
import Derived.RowKit
import Derived.Test.YtjgcfdiicjbdoaaWWords
import Derived.Test.YtjgcfdiicjbdoaaWLast
import Derived.Test.YtjgcfdiicjbdoaaWTab
import Derived.Test.YtjgcfdiicjbdoaaWFour
import Derived.Test.YtjgcfdiicjbdoaaWQPut
import Derived.Test.YtjgcfdiicjbdoaaWApart
import Derived.Test.YtjgcfdiicjbdoaaWArr
import Derived.Test.YtjgcfdiicjbdoaaWZeros
import Derived.Test.YtjgcfdiicjbdoaaWFoot
import Derived.Test.YtjgcfdiicjbdoaaWKept
import Derived.Test.YtjgcfdiicjbdoaaWShare
import Derived.Test.YtjgcfdiicjbdoaaWN
import Derived.Test.YtjgcfdiicjbdoaaWFootNe
import Derived.Test.YtjgcfdiicjbdoaaWAt
import Derived.Test.YtjgcfdiicjbdoaaWEqStruct
import Derived.Test.YtjgcfdiicjbdoaaWRepsOne
import Derived.Test.YtjgcfdiicjbdoaaWInv
import Derived.Test.YtjgcfdiicjbdoaaWInvWords
import Derived.Test.YtjgcfdiicjbdoaaWGuard
import Derived.Test.YtjgcfdiicjbdoaaWNEv
import Derived.Test.YtjgcfdiicjbdoaaWMore
namespace Go.Proofs.Ytjgcfdiicjbdoaa.Own
open Go.RowKit Go.Proofs.YtjgcfdiicjbdoaaW.PrintWords Go.Proofs.YtjgcfdiicjbdoaaW.PrintLast Go.Proofs.YtjgcfdiicjbdoaaW.PrintMore

set_option maxHeartbeats 400000 in
theorem less_calls (W : World) (p2 p3 ad : Addr) (l : List Int) (c : Nat) (n x : Int) (i : Nat) (hi : i < l.length) (h2 : W.cell? p2 = some (.slice (some ad) l.length c)) (h3 : W.cell? p3 = some (.int .u64 n))
    (hc : W.cell? (ad.add i) = some (.int .u64 x)) :
    Calls Try.prog 19 #[.int .i64 i, .pointer (some p2), .pointer (some p3)] W fun e w' => e = .returned (.bool (decide (n < x))) ∧ w' = W.drew := by
  go_enter Try.func19, Try.ntmps19
  go_wp2
  go_region
  go_wp2
  go_ret
  exact ⟨rfl, rfl⟩

/-- How many sums at the front are not more than n. -/
def below (n : Int) (l : List Int) : Nat := (l.takeWhile (fun x => decide (x ≤ n))).length
theorem below_is (n : Int) (l : List Int) (a : Nat) (ha : a ≤ l.length) (h1 : ∀ x, x < a → l.getD x 0 ≤ n) (h2 : ∀ x, a ≤ x → x < l.length → n < l.getD x 0) : below n l = a := by
  unfold below
  induction l generalizing a with
  | nil => simp at ha; simp [ha]
  | cons y l ih =>
    cases a with
    | zero =>
      have := h2 0 (Nat.le_refl _) (by simp)
      simp only [List.getD_cons_zero] at this
      rw [List.takeWhile_cons, if_neg (by simpa using this)]
      rfl
    | succ a =>
      have := h1 0 (by omega)
      simp only [List.getD_cons_zero] at this
      rw [List.takeWhile_cons, if_pos (by simpa using this), List.length_cons, ih a (by simpa using ha) (fun x hx => by simpa using h1 (x + 1) (by omega)) (fun x hx hl => by simpa using h2 (x + 1) (by omega) (by simpa using hl))]

set_option maxHeartbeats 400000 in
theorem search_calls (W : World) (p2 p3 ad : Addr) (l : List Int) (c : Nat) (n : Int) (hl : l.length ≤ 64) (h2 : W.cell? p2 = some (.slice (some ad) l.length c)) (h3 : W.cell? p3 = some (.int .u64 n))
    (hc : ∀ i, i < l.length → W.cell? (ad.add i) = some (.int .u64 (l.getD i 0))) (hm : ∀ x y, x ≤ y → y < l.length → n < l.getD x 0 → n < l.getD y 0) :
    Calls Try.prog 18 #[.int .i64 l.length, .func (.func 19) #[] #[.pointer (some p2), .pointer (some p3)]] W fun e w' => e = .returned (.int .i64 (below n l)) ∧ Drawn0 W w' := by
  have HC := Aside0.mk hc
  have HM := Aside0.mk hm
  have H2 := Aside0.mk h2
  have H3 := Aside0.mk h3
  clear hc hm h2 h3
  obtain ⟨r, hr⟩ : ∃ r, below n l = r := ⟨_, rfl⟩
  have HR := Aside0.mk hr
  rw [hr]
  clear hr
  go_enter Try.func18, Try.ntmps18
  go_wp2
  go_loopg [5, 6] l.length (fun k v5 v6 w' => ∃ a b m : Nat, b ≤ a + k ∧ a ≤ b ∧ b ≤ l.length ∧ v5 = .int .i64 a ∧ v6 = .int .i64 b ∧ w' = W.drewN m ∧ Aside0 (∀ x, x < a → l.getD x 0 ≤ n) ∧ Aside0 (∀ x, b ≤ x → x < l.length → n < l.getD x 0))
  case atStart => exact ⟨0, l.length, 0, by omega, by omega, by omega, rfl, rfl, rfl, ⟨fun x hx => by omega⟩, ⟨fun x hx hl => by omega⟩⟩
  case round =>
    obtain ⟨a, b, m, hk, hab, hbl, rfl, rfl, rfl, HA, HBB⟩ := hrel
    by_cases hlt : a < b
    · have e1 : ((a : Int) + b) / 2 = (((a + b) / 2 : Nat) : Int) := by omega
      obtain ⟨h, hh⟩ : ∃ h, (a + b) / 2 = h := ⟨_, rfl⟩
      rw [hh] at e1
      have b1 : a ≤ h := by omega
      have b2 : h < b := by omega
      clear hh
      obtain ⟨x, hx⟩ : ∃ x, l.getD h 0 = x := ⟨_, rfl⟩
      have hcall := fun W' (hW : W' = W.drewN m) => less_calls W' p2 p3 ad l c n x h (by omega) (by subst hW; exact H2.out) (by subst hW; exact H3.out) (by subst hW; rw [← hx]; exact HC.out h (by omega))
      have HX := Aside0.mk hx
      clear hx
      by_cases hd : n < x
      · have HN : Aside0 (∀ y, h ≤ y → y < l.length → n < l.getD y 0) := ⟨fun y h1 h2 => HM.out h y h1 h2 (by rw [HX.out]; exact hd)⟩
        have hd' : decide (n < x) = true := decide_eq_true hd
        clear hd HBB
        go_wp2_with fail
        refine (hcall _ rfl).mono ?_
        rintro e w' ⟨rfl, rfl⟩
        go_wp2
        go_roundg (h - a)
        case measure => omega
        case rel => exact ⟨a, h, m + 1, by omega, by omega, by omega, rfl, rfl, rfl, HA, HN⟩
      · have HN : Aside0 (∀ y, y < h + 1 → l.getD y 0 ≤ n) := ⟨fun y hy => by
          rcases Nat.lt_or_ge y h with h1 | h1
          · refine Int.not_lt.mp fun z => hd ?_
            rw [← HX.out]
            exact HM.out y h (by omega) (by omega) z
          · obtain rfl : y = h := by omega
            rw [HX.out]; omega⟩
        have hd' : decide (n < x) = false := decide_eq_false hd
        clear hd HA
        go_wp2_with fail
        refine (hcall _ rfl).mono ?_
        rintro e w' ⟨rfl, rfl⟩
        go_wp2
        go_roundg (b - h - 1)
        case measure => omega
        case rel => exact ⟨h + 1, b, m + 1, by omega, by omega, by omega, by go_num, rfl, rfl, HN, HBB⟩
    · obtain rfl : a = b := by omega
      have hx := below_is n l a hbl HA.out HBB.out
      rw [HR.out] at hx
      subst hx
      go_wp2
      go_ret
      exact ⟨rfl, ⟨_, rfl⟩⟩
/-- Do the sums rise? -/
def rises (l : List Int) : Prop := ∀ j, j + 1 < l.length → l.getD j 0 < l.getD (j + 1) 0
instance (l : List Int) : Decidable (rises l) := decidable_of_iff (∀ j, j < l.length - 1 → l.getD j 0 < l.getD (j + 1) 0)
  ⟨fun h j hj => h j (by omega), fun h j hj => h j (by omega)⟩
/-- May a table be? -/
def okT (l : List Int) : Prop := 0 < l.length ∧ l.length ≤ 64 ∧ l.getD 0 0 ≠ 0 ∧ rises l
instance (l : List Int) : Decidable (okT l) := inferInstanceAs (Decidable (_ ∧ _ ∧ _ ∧ _))
def degree_Pick.f (l0 : List Int) (a1 : Int) : Option (Int × Int) :=
  if 0 ≤ a1 ∧ (∀ x ∈ l0, 0 ≤ x) ∧ l0.length ≤ 9223372036854775807 then (if okT l0 then some (1 + (below (a1 % l0.getD (l0.length - 1) 0) l0 : Nat), 0) else some (0, 1)) else none
theorem rises_mono {l : List Int} (h : rises l) (x y : Nat) (hxy : x ≤ y) (hy : y < l.length) : l.getD x 0 ≤ l.getD y 0 := by
  induction hxy with
  | refl => exact Int.le_refl _
  | @step m _ ih => have := h m (by omega); have := ih (by omega); simp only [Nat.succ_eq_add_one]; omega

theorem getD_nonneg {l : List Int} (h : ∀ x ∈ l, 0 ≤ x) (j : Nat) : 0 ≤ l.getD j 0 := by
  rcases Nat.lt_or_ge j l.length with hj | hj
  · rw [List.getD_eq_getElem?_getD, List.getElem?_eq_getElem hj]; exact h _ (List.getElem_mem hj)
  · rw [List.getD_eq_getElem?_getD, List.getElem?_eq_none hj]; exact Int.le_refl 0

theorem add_zero' (ad : Addr) : ad.add (Int.toNat 0) = ad := by unfold Addr.add; simp

set_option maxHeartbeats 1000000 in
theorem pick_short (A0 : Option Addr) (c0 : Nat) (l : List Int) (n : Int) (w : World) (h : l.length = 0 ∨ 64 < l.length) (hl : l.length ≤ 9223372036854775807) :
    Calls Try.prog 7 #[.slice A0 l.length c0, .int .u64 n] w fun e w' => e = .returned (.tuple #[.int .i64 0, .int .i64 1]) ∧ Below w.heap.size w w' := by
  by_cases h0 : l.length = 0
  · go_enter Try.func7, Try.ntmps7
    go_wp2
    go_ret2
    exact ⟨rfl, below_alloc (below_alloc (Below.refl _ _) _) _⟩
  · have h1 : ((l.length : Int) == 0) = false := by simpa using h0
    have h2 : 64 < l.length := by omega
    go_enter Try.func7, Try.ntmps7
    go_wp2
    go_ret2
    exact ⟨rfl, below_alloc (below_alloc (Below.refl _ _) _) _⟩

set_option maxHeartbeats 1000000 in
theorem pick_zero (A0 : Option Addr) (c0 : Nat) (l : List Int) (n : Int) (w : World) (hr0 : Kd.C (Kd.int .u64) w A0 l.length l) (h0 : 0 < l.length) (h64 : l.length ≤ 64) (hz : l.getD 0 0 = 0) :
    Calls Try.prog 7 #[.slice A0 l.length c0, .int .u64 n] w fun e w' => e = .returned (.tuple #[.int .i64 0, .int .i64 1]) ∧ Below w.heap.size w w' := by
  obtain ⟨ad, rfl, hx⟩ := Kd.at_int (Kd.C_alloc (Kd.C_alloc hr0 (.cells #[.slice A0 l.length c0] 22)) (.cells #[.int .u64 n] 23)) 0 (by omega) (by omega)
  rw [show rd l 0 = 0 from hz, add_zero'] at hx
  have h64' : decide (64 < (l.length : Int)) = false := by simp; omega
  have h1 : ((l.length : Int) == 0) = false := beq_eq_false_iff_ne.mpr (by omega)
  go_enter Try.func7, Try.ntmps7
  go_wp2
  go_ret2
  exact ⟨rfl, below_alloc (below_alloc (Below.refl _ _) _) _⟩

set_option maxHeartbeats 1000000 in
theorem pick_rest (A0 : Option Addr) (c0 : Nat) (l : List Int) (n : Int) (w : World) (hr0 : Kd.C (Kd.int .u64) w A0 l.length l) (hc0 : l.length ≤ c0) (h0 : 0 < l.length) (h64 : l.length ≤ 64) (hz : l.getD 0 0 ≠ 0) (hn : 0 ≤ n) (hp : ∀ x ∈ l, 0 ≤ x) (r : Int × Int)
    (hr : r = if rises l then (1 + ((below (n % l.getD (l.length - 1) 0) l : Nat) : Int), 0) else (0, 1)) :
    Calls Try.prog 7 #[.slice A0 l.length c0, .int .u64 n] w fun e w' => e = .returned (.tuple #[.int .i64 r.1, .int .i64 r.2]) ∧ Below w.heap.size w w' := by
  have HC := Aside0.mk (Kd.C_alloc (Kd.C_alloc hr0 (.cells #[.slice A0 l.length c0] 22)) (.cells #[.int .u64 n] 23))
  have HR := Aside0.mk hr
  clear hr
  obtain ⟨ad, rfl, hx⟩ := Kd.at_int HC.out 0 (by omega) (by omega)
  obtain ⟨z, hz'⟩ : ∃ z, rd l 0 = z := ⟨_, rfl⟩
  rw [hz', add_zero'] at hx
  have h64' : decide (64 < (l.length : Int)) = false := by simp; omega
  have hz2 : (z == 0) = false := by simpa [← hz', rd] using hz
  have h1 : ((l.length : Int) == 0) = false := beq_eq_false_iff_ne.mpr (by omega)
  have HZ := Aside0.mk hz'
  clear hz hz'
  have HCL : Aside0 (∀ j, j < l.length → ((w.alloc (.cells #[.slice (some ad) l.length c0] 22)).alloc (.cells #[.int .u64 n] 23)).cell? (ad.add j) = some (.int .u64 (l.getD j 0))) := ⟨fun j hj => by
    obtain ⟨ad', e, hx⟩ := Kd.at_int HC.out j (by omega) (by omega)
    cases e
    exact hx⟩
  have HPP := Aside0.mk hp
  clear hp
  obtain ⟨i0, hi, hz0, hz1, hz2'⟩ := info_parts (show (Try.prog.info? 23).map (fun i => (i.zero, i.size, i.bytes)) = some (some (.int .u64 0), 1, 8) by kernel_rfl)
  obtain ⟨A', hcut, hA', hle⟩ := print_cut_int (P := Try.prog) (k := .u64) 22 23 Try.underlying22 hi hz1 (some ad) c0 l 1 (by omega) (by omega) hc0
  have HRI : ReadsInt ((w.alloc (.cells #[.slice (some ad) l.length c0] 22)).alloc (.cells #[.int .u64 n] 23)) .u64 (some ad) l.length l := ⟨rfl, by omega, fun _ => ⟨ad, rfl, HCL.out⟩⟩
  have HD := Aside0.mk (hA' _ HRI)
  clear hA' HRI hi hz0 hz1 hz2'
  obtain ⟨m, hm⟩ : ∃ m, l.length - 1 = m := ⟨_, rfl⟩
  have eI : (l.length : Int) - 1 = (m : Int) := by omega
  have hm1 : l.length = m + 1 := by omega
  have HM := Aside0.mk hm1
  clear hm1
  go_enter Try.func7, Try.ntmps7
  go_wp2
  generalize hW : ((w.alloc (.cells #[.slice (some ad) l.length c0] 22)).alloc (.cells #[.int .u64 n] 23)) = W at HC HCL HD hx ⊢
  have HW := Aside0.mk hW
  have c2 : W.cell? ⟨w.heap.size, 0, none⟩ = some (.slice (some ad) l.length c0) := by rw [← hW]; exact cell_of_row _ _ 0 #[.slice (some ad) l.length c0] 22 (0, 0) ((heap_alloc_old _ _ (by simp)).trans (heap_alloc_new _ _))
  clear hW hcut hx
  go_loopg [25] m (fun k v25 w' => ∃ (j : Nat), j + k = m ∧ v25 = .int .i64 j ∧ w' = W ∧ Aside0 (∀ i, i < j → l.getD i 0 < l.getD (i + 1) 0))
  case atStart => exact ⟨0, by omega, rfl, rfl, ⟨fun i hi => by omega⟩⟩
  case round =>
    obtain ⟨j, hj, rfl, rfl, HA⟩ := hrel
    by_cases hlt : j < m
    · have hlen : j < l.length := by have := HM.out; omega
      have g1 := HCL.out j hlen
      obtain ⟨ad', e', g2⟩ := ReadsInt.at_ HD.out j (by omega) (by rw [List.length_drop]; have := HM.out; simp; omega)
      subst e'
      have g3 : rd (List.drop (Int.toNat 1) l) (j : Int) = l.getD (j + 1) 0 := by
        simp [rd, List.getD_eq_getElem?_getD]
      rw [g3, Int.toNat_natCast] at g2
      obtain ⟨x, hx⟩ : ∃ x, l.getD j 0 = x := ⟨_, rfl⟩
      obtain ⟨y, hy⟩ : ∃ y, l.getD (j + 1) 0 = y := ⟨_, rfl⟩
      rw [hx] at g1
      rw [hy] at g2
      have HX := Aside0.mk hx
      have HY := Aside0.mk hy
      clear hx hy g3
      by_cases hd : y ≤ x
      · have hd' : decide (y ≤ x) = true := decide_eq_true hd
        have hr : r = (0, 1) := by
          rw [HR.out, if_neg]
          intro hh
          have := hh j (by have := HM.out; omega)
          rw [HX.out, HY.out] at this
          omega
        clear hd
        subst hr
        go_wp2
        go_ret2
        exact ⟨rfl, by rw [← HW.out]; exact below_alloc (below_alloc (Below.refl _ _) _) _⟩
      · have hd' : decide (y ≤ x) = false := decide_eq_false hd
        have HN : Aside0 (∀ i, i < j + 1 → l.getD i 0 < l.getD (i + 1) 0) := ⟨fun i hi => by
          rcases Nat.lt_or_ge i j with h1 | h1
          · exact HA.out i h1
          · obtain rfl : i = j := by omega
            rw [HX.out, HY.out]; omega⟩
        clear hd HA
        go_wp2
        go_roundg (m - j - 1)
        case measure => omega
        case rel => exact ⟨j + 1, by omega, by go_num, rfl, HN⟩
    · obtain rfl : j = m := by omega
      have hri : rises l := fun i hi => HA.out i (by have := HM.out; omega)
      have hlast : 0 < l.getD j 0 := by
        have := rises_mono hri 0 j (by omega) (by have := HM.out; omega)
        have h2 := getD_nonneg HPP.out 0
        have h3 : l.getD 0 0 ≠ 0 := by
          intro h4
          have h5 : z = 0 := by rw [← HZ.out]; exact h4
          subst h5
          simp at hz2
        omega
      obtain ⟨q, hq⟩ : ∃ q, l.getD j 0 = q := ⟨_, rfl⟩
      have g1 := HCL.out j (by have := HM.out; omega)
      rw [hq] at hlast g1
      have HQ := Aside0.mk hq
      have HRI := Aside0.mk hri
      clear hq hri HA
      have W' := HW.out
      subst W'
      go_wp2
      go_region
      go_wp2_with fail
      refine (search_calls _ _ _ ad l c0 (n % q) h64 ?_ ?_ ?_ ?_).mono ?_
      · show ((w.alloc (.cells #[.slice (some ad) l.length c0] 22)).alloc (.cells #[.int .u64 (n % q)] 23)).cell? _ = _
        exact cell_of_row _ _ 0 #[.slice (some ad) l.length c0] 22 (0, 0) ((heap_alloc_old _ _ (by simp)).trans (heap_alloc_new _ _))
      · show ((w.alloc (.cells #[.slice (some ad) l.length c0] 22)).alloc (.cells #[.int .u64 (n % q)] 23)).cell? _ = _
        have h := heap_alloc_new (w.alloc (.cells #[.slice (some ad) l.length c0] 22)) (.cells #[.int .u64 (n % q)] 23)
        rw [show (w.alloc (.cells #[.slice (some ad) l.length c0] 22)).heap.size = w.heap.size + 1 by simp] at h
        exact cell_of_row _ _ 0 #[.int .u64 (n % q)] 23 (0, 0) h
      · intro i hi
        obtain ⟨ad', e, hx⟩ := Kd.at_int (Kd.C_drew (Kd.C_alloc (Kd.C_alloc hr0 (.cells #[.slice (some ad) l.length c0] 22)) (.cells #[.int .u64 (n % q)] 23))) i (by omega) (by omega)
        cases e
        exact hx
      · intro x y h1 h2 h3
        have := rises_mono HRI.out x y h1 h2
        omega
      rintro e w' ⟨rfl, ⟨mm, rfl⟩⟩
      have hr : r = (1 + (below (n % q) l : Int), 0) := by
        rw [HR.out, if_pos HRI.out, show l.length - 1 = j by have := HM.out; omega, HQ.out]
      obtain ⟨b, hb⟩ : ∃ b, below (n % q) l = b := ⟨_, rfl⟩
      have hb64 : b ≤ 64 := by
        rw [← hb]; unfold below
        have := (List.takeWhile_sublist (fun x => decide (x ≤ n % q)) (l := l)).length_le
        omega
      rw [hb] at hr ⊢
      clear hb
      subst hr
      go_wp2
      go_ret2
      exact ⟨rfl, pw_below_drewN (below_alloc (below_alloc (Below.refl _ _) _) _) _⟩
theorem degree_Pick.calls (A0 : Option Addr) (c0 : Nat) (l0 : List Int) (a1 : Int) (r1 r2 : Int) (w : World) (hr0 : Kd.C (Kd.int .u64) w A0 l0.length l0) (hc0 : l0.length ≤ c0) (h : degree_Pick.f l0 a1 = some (r1, r2)) :
    Calls Try.prog 7 #[.slice A0 l0.length c0, .int .u64 a1] w fun e w' => e = .returned (.tuple #[.int .i64 r1, .int .i64 r2]) ∧ Below w.heap.size w w' := by
  unfold degree_Pick.f at h
  split at h
  · rename_i hh
    obtain ⟨hn, hp, hmax⟩ := hh
    by_cases h1 : l0.length = 0 ∨ 64 < l0.length
    · rw [if_neg (by unfold okT; omega)] at h
      cases h
      exact pick_short A0 c0 l0 a1 w h1 hmax
    · by_cases h2 : l0.getD 0 0 = 0
      · rw [if_neg (by unfold okT; intro z; exact z.2.2.1 h2)] at h
        cases h
        exact pick_zero A0 c0 l0 a1 w hr0 (by omega) (by omega) h2
      · have := pick_rest A0 c0 l0 a1 w hr0 hc0 (by omega) (by omega) h2 hn hp (r1, r2) (by
          by_cases h3 : rises l0
          · rw [if_pos (show okT l0 from ⟨by omega, by omega, h2, h3⟩)] at h
            rw [if_pos h3]
            exact (Option.some.inj h).symm
          · rw [if_neg (by unfold okT; intro z; exact h3 z.2.2.2)] at h
            rw [if_neg h3]
            exact (Option.some.inj h).symm)
        exact this
  · cases h
end Go.Proofs.Ytjgcfdiicjbdoaa.Own

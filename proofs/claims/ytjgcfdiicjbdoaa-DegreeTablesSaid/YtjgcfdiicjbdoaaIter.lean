/-
  degree.weights, an iterator, walked by hand.
-/
import Derived.RangeFuncBox
import Derived.RangeFuncLeaves
import Derived.RangeFuncNested
import Derived.RangeFuncBound
import Derived.RangeFuncCalls
import Derived.Shelf.Abstract
import Derived.Shelf.RegionOpen
import Derived.WalkKit
import Derived.OwnWalkIn
import Derived.TacticsInMore
import Derived.LoopNIn
import Derived.LoopIn
import Derived.Maps.AppendAt
import Derived.Test.YtjgcfdiicjbdoaaPureDegreeRoots
namespace Go.Proofs.Ytjgcfdiicjbdoaa.Pure
open Go.RowKit Go.Shelf Go.Proofs.YtjgcfdiicjbdoaaW.PrintWords Go.Proofs.YtjgcfdiicjbdoaaW.PrintLast Go.Proofs.Ytjgcfdiicjbdoaa.Own Go.Proofs.Ytjgcfdiicjbdoaa.P
attribute [local go_sem] Oper.semAt_some

set_option maxHeartbeats 1000000 in
theorem weights_in (F : Fence) (n : Nat) (h5 : F.fn 23) (hro : F.round = none) (k : Int) (w : World) :
    CallsIn F n Try.prog 23 #[.int .i64 k] w fun e w' => e = .returned (.func (.func 26) #[] #[.pointer (some ⟨w.heap.size, 0, none⟩)]) ∧ w' = w.alloc (.cells #[.int .i64 k] 3) := by
  refine callsIn_of_wp Try.func23 rfl h5 ?_ hro
  simp only [Try.ntmps23, List.size_toArray, List.length_cons, List.length_nil, Nat.reduceAdd, Nat.reduceSub, Array.replicate_succ, Array.replicate_zero, List.push_toArray, List.append_toArray, List.nil_append, List.cons_append]
  gi_wp2
  go_ret
  exact ⟨rfl, rfl⟩

/-- How many binary digits. -/
def lenN (t : Nat) : Nat := if t < 2 then 1 else if t < 4 then 2 else if t < 8 then 3 else 4
theorem lenN_le (t : Nat) : lenN t ≤ 4 := by unfold lenN; split; · decide
                                             split; · decide
                                             split <;> decide
set_option maxRecDepth 100000 in
set_option maxHeartbeats 4000000 in
theorem len64 (t : Nat) (h1 : 1 ≤ t) (h8 : t ≤ 8) (w : World) : Calls Try.prog 27 #[.int .u64 t] w fun e w' => e = .returned (.int .i64 (lenN t)) ∧ w' = w := by
  have : t = 1 ∨ t = 2 ∨ t = 3 ∨ t = 4 ∨ t = 5 ∨ t = 6 ∨ t = 7 ∨ t = 8 := by omega
  rcases this with rfl | rfl | rfl | rfl | rfl | rfl | rfl | rfl
  all_goals
    go_enter Try.func27, Try.ntmps27
    go_wp2
    go_ret
    exact ⟨by first | rfl | (simp; decide +kernel), rfl⟩
/-- A degree's weight, of k blocks whose root is t. -/
def wt (k t d : Nat) : Nat := (if 1 < d then 4294967296 / (d * (d - 1)) else 4294967296 / k) + (if d < k / t then 4294967296 * t / (d * k) else if d = k / t then 4294967296 * t * lenN t / k else 0)
abbrev W0 : Fence := Fence.wide
set_option maxHeartbeats 8000000 in
theorem iter_in (n : Nat) (hn : 1 ≤ n) (l Bn n₀ : Nat) (k t : Nat) (hk1 : 1 ≤ k) (hk2 : k ≤ 64) (ht : degree_root.f 17 k = some (t : Int)) (it : IsRoot k t) (xs : List Int) (hxs : xs = (List.range k).map fun i => (wt k t (i + 1) : Int)) (J Jx : List Int → World → Prop)
    (hY : ∀ pre x W, J pre W → pre.length < xs.length → YieldAt W0 (n - 1) Try.prog l #[.int .u64 x] W fun e W' =>
      (e = .returned (.bool true) ∧ J (pre ++ [x]) W' ∧ Below n₀ W W') ∨ (e = .returned (.bool false) ∧ Jx (pre ++ [x]) W'))
    (W : World) (hJ : AbidesFrom W.heap.size J) (hBn : W.cell? ⟨Bn, 0, none⟩ = some (.int .i64 k)) (h0 : J [] W) :
    CallsIn W0 n Try.prog 26 #[.func (.yield l) #[] #[], .pointer (some ⟨Bn, 0, none⟩)] W fun e W' => (∃ v, e = .returned v) ∧
      ((∃ ys, ys = xs ∧ J ys W') ∨ (∃ pre, pre <+: xs ∧ Jx pre W')) := by
  refine callsIn_of_wp Try.func26 rfl trivial ?_ rfl
  simp only [Try.ntmps26, List.size_toArray, List.length_cons, List.length_nil, Nat.reduceAdd, Nat.reduceSub, Array.replicate_succ, Array.replicate_zero, List.push_toArray, List.append_toArray, List.nil_append, List.cons_append]
  have ht64 : (t : Int) ≤ 8 := by
    have := it.2.1
    rcases Int.lt_or_le (t : Int) 9 with h | h
    · omega
    · have := sq_le (a := 9) (b := (t : Int)) (by decide) h; omega
  have ht1 : 1 ≤ t := by
    rcases Nat.lt_or_ge t 1 with h | h
    · obtain rfl : t = 0 := by omega
      have := it.2.2
      simp at this
      omega
    · exact h
  have ht8 : t ≤ 8 := by omega
  have HR := Aside0.mk ht
  have HI := Aside0.mk it
  clear ht it ht64
  have hmix : Try.prog.follows .mixedOrders = true := by kernel_rfl
  have hwk : IntKind.u64.wrap (k : Int) = (k : Int) := by rw [IntKind.wrap_u64]; omega
  have hwt : IntKind.u64.wrap (t : Int) = (t : Int) := by rw [IntKind.wrap_u64]; omega
  gi_wp2
  gi_region_with_o (refine ⟨trivial, ?_⟩; gi_at_call 20; refine (callsIn_wide.2 (degree_root.calls 17 k t _ HR.out)).mono ?_; rintro e w' ⟨rfl, ⟨nd, rfl⟩⟩)
  all_goals gi_wp2
  all_goals
    have HJ : Aside0 (J [] (W.drewN (1 + nd))) := ⟨hJ [] W _ none h0 ⟨rfl, rfl, rfl, Nat.le_refl _, fun _ _ _ => rfl⟩ (fun r e => by cases e)⟩
    clear h0
    gi_loopw [5] (fun v5 wr => ∃ (d : Nat), 1 ≤ d ∧ d ≤ k + 1 ∧ v5 = .int .u64 d ∧ Aside0 (J (xs.take (d - 1)) wr)) (fun v5 _ => k + 1 - (intOf v5).toNat)
    case atStart => exact ⟨1, by omega, by omega, rfl, HJ⟩
    case round =>
      clear HJ
      obtain ⟨d, hd1, hd2, rfl, HA⟩ := hrel
      by_cases hlt : d ≤ k
      · obtain ⟨m1, hm1⟩ : ∃ m1, d * (d - 1) = m1 := ⟨_, rfl⟩
        obtain ⟨m2, hm2⟩ : ∃ m2, d * k = m2 := ⟨_, rfl⟩
        obtain ⟨p, hp⟩ : ∃ p, k / t = p := ⟨_, rfl⟩
        have b1 : m1 ≤ 4032 := by rw [← hm1]; exact Nat.le_trans (Nat.mul_le_mul (show d ≤ 64 by omega) (show d - 1 ≤ 63 by omega)) (by decide)
        have b2 : m2 ≤ 4096 := by rw [← hm2]; exact Nat.le_trans (Nat.mul_le_mul (show d ≤ 64 by omega) (show k ≤ 64 by omega)) (by decide)
        have b3 : 1 ≤ m2 := by rw [← hm2]; exact Nat.mul_pos (by omega) (by omega)
        have b4 : p ≤ 64 := by rw [← hp]; exact Nat.le_trans (Nat.div_le_self _ _) hk2
        have e1 : IntKind.u64.wrap ((d : Int) * ((d : Int) - 1)) = (m1 : Int) := by
          rw [show ((d : Int) * ((d : Int) - 1)) = ((d * (d - 1) : Nat) : Int) by rw [Int.natCast_mul]; congr 1; omega, hm1, IntKind.wrap_u64]; omega
        have e2 : IntKind.u64.wrap ((k : Int) / (t : Int)) = (p : Int) := by
          rw [show ((k : Int) / (t : Int)) = ((k / t : Nat) : Int) by simp, hp, IntKind.wrap_u64]; omega
        have e3 : IntKind.u64.wrap ((d : Int) * (k : Int)) = (m2 : Int) := by
          rw [← Int.natCast_mul, hm2, IntKind.wrap_u64]; omega
        obtain ⟨q1, hq1⟩ : ∃ q1, 4294967296 / m1 = q1 := ⟨_, rfl⟩
        obtain ⟨q2, hq2⟩ : ∃ q2, 4294967296 / k = q2 := ⟨_, rfl⟩
        obtain ⟨q3, hq3⟩ : ∃ q3, 4294967296 * t / m2 = q3 := ⟨_, rfl⟩
        obtain ⟨q4, hq4⟩ : ∃ q4, 4294967296 * t * lenN t / k = q4 := ⟨_, rfl⟩
        have c1 : q1 ≤ 4294967296 := by rw [← hq1]; exact Nat.div_le_self _ _
        have c2 : q2 ≤ 4294967296 := by rw [← hq2]; exact Nat.div_le_self _ _
        have c3 : q3 ≤ 4294967296 * 8 := by rw [← hq3]; exact Nat.le_trans (Nat.div_le_self _ _) (Nat.mul_le_mul_left _ ht8)
        have l4 := lenN_le t
        have c4 : q4 ≤ 4294967296 * 8 * 4 := by rw [← hq4]; exact Nat.le_trans (Nat.div_le_self _ _) (Nat.mul_le_mul (Nat.mul_le_mul_left _ ht8) l4)
        have d1 : (4294967296 : Int) / (m1 : Int) = (q1 : Int) := by rw [← hq1]; simp
        have d2 : (4294967296 : Int) / (k : Int) = (q2 : Int) := by rw [← hq2]; simp
        have d3 : (4294967296 : Int) * (t : Int) / (m2 : Int) = (q3 : Int) := by rw [← hq3]; simp
        have HX : Aside0 (xs.getD (d - 1) 0 = ((if 1 < d then q1 else q2) + (if d < p then q3 else if d = p then q4 else 0) : Nat)) := ⟨by
          have hl : d - 1 < k := by omega
          rw [hxs]
          simp only [List.getD_eq_getElem?_getD, List.getElem?_map, List.getElem?_range hl, Option.map_some, Option.getD_some]
          unfold wt
          rw [show d - 1 + 1 = d by omega, hm1, hm2, hp, hq1, hq2, hq3, hq4]⟩
        have hlen : xs.length = k := by rw [hxs]; simp
        have HT : Aside0 (xs.take d = xs.take (d - 1) ++ [xs.getD (d - 1) 0]) := ⟨by
          have hl : d - 1 < xs.length := by omega
          conv => lhs; rw [show d = d - 1 + 1 by omega]
          rw [List.take_succ_eq_append_getElem hl]
          simp [List.getD_eq_getElem?_getD, List.getElem?_eq_getElem hl]⟩
        have m1p : 1 < d → 1 ≤ m1 := fun h => by rw [← hm1]; exact Nat.mul_pos (by omega) (by omega)
        have d4 : (4294967296 : Int) * (t : Int) * (lenN t : Int) / (k : Int) = (q4 : Int) := by rw [← hq4]; simp
        have e4 : IntKind.u64.wrap ((IntKind.u64.wrap (4294967296 * (t : Int) * (lenN t : Int))).tdiv (k : Int)) = (q4 : Int) := by
          have b5 : 4294967296 * t * lenN t ≤ 4294967296 * 8 * 4 := Nat.mul_le_mul (Nat.mul_le_mul_left _ ht8) l4
          rw [show (4294967296 * (t : Int) * (lenN t : Int)) = ((4294967296 * t * lenN t : Nat) : Int) by simp]
          rw [show IntKind.u64.wrap ((4294967296 * t * lenN t : Nat) : Int) = ((4294967296 * t * lenN t : Nat) : Int) by rw [IntKind.wrap_u64]; omega]
          rw [Int.tdiv_eq_ediv_of_nonneg (by omega), ← Int.natCast_ediv, hq4, IntKind.wrap_u64]; omega
        have hwl : IntKind.u64.wrap (lenN t : Int) = (lenN t : Int) := by rw [IntKind.wrap_u64]; omega
        clear hm1 hm2 hp hq1 hq2 hq3 hq4
        by_cases hd : 1 < d
        · have m1q := m1p hd
          clear m1p d2
          by_cases hlt2 : d < p
          · clear d4 hwl
            have hx : xs.getD (d - 1) 0 = (q1 : Int) + (q3 : Int) := by rw [HX.out, if_pos hd, if_pos hlt2]; omega
            obtain ⟨fn, tmps, assign, body, hy, hR⟩ := hY (xs.take (d - 1)) ((q1 : Int) + (q3 : Int)) wr HA.out (by rw [List.length_take]; omega)
            rw [← hx, ← HT.out] at hR
            clear HX HT hx HA
            gi_wp2
            refine hR.mono ?_
            rintro e W3 (⟨rfl, hJ3, hk3⟩ | ⟨rfl, hJx3⟩)
            · gi_wp2
              go_roundw
              case rel => exact ⟨d + 1, by omega, by omega, by go_num, ⟨by rw [Nat.add_sub_cancel]; exact hJ3⟩⟩
              case measure => simp [intOf]; omega
            · gi_wp2
              refine bodyPost_ret (results_none rfl _ _ _) rfl ?_
              exact ⟨⟨_, rfl⟩, .inr ⟨xs.take d, List.take_prefix _ _, hJx3⟩⟩
          · by_cases heq : d = p
            · clear d3
              have hb : ((d : Int) == (p : Int)) = true := by simp [heq]
              have hx : xs.getD (d - 1) 0 = (q1 : Int) + (q4 : Int) := by rw [HX.out, if_pos hd, if_neg hlt2, if_pos heq]; omega
              clear heq
              obtain ⟨fn, tmps, assign, body, hy, hR⟩ := hY (xs.take (d - 1)) ((q1 : Int) + (q4 : Int)) wr HA.out (by rw [List.length_take]; omega)
              rw [← hx, ← HT.out] at hR
              clear HX HT hx HA
              gi_wp2_with (refine ⟨trivial, ?_⟩; gi_at_call 27; refine (callsIn_wide.2 (len64 t ht1 ht8 _)).mono ?_; rintro e w' ⟨rfl, rfl⟩)
              refine hR.mono ?_
              rintro e W3 (⟨rfl, hJ3, hk3⟩ | ⟨rfl, hJx3⟩)
              · gi_wp2
                go_roundw
                case rel => exact ⟨d + 1, by omega, by omega, by go_num, ⟨by rw [Nat.add_sub_cancel]; exact hJ3⟩⟩
                case measure => simp [intOf]; omega
              · gi_wp2
                refine bodyPost_ret (results_none rfl _ _ _) rfl ?_
                exact ⟨⟨_, rfl⟩, .inr ⟨xs.take d, List.take_prefix _ _, hJx3⟩⟩
            · clear d3 d4 hwl
              have hb : ((d : Int) == (p : Int)) = false := by simp; omega
              have hx : xs.getD (d - 1) 0 = (q1 : Int) := by rw [HX.out, if_pos hd, if_neg hlt2, if_neg heq]; omega
              clear heq
              obtain ⟨fn, tmps, assign, body, hy, hR⟩ := hY (xs.take (d - 1)) ((q1 : Int)) wr HA.out (by rw [List.length_take]; omega)
              rw [← hx, ← HT.out] at hR
              clear HX HT hx HA
              gi_wp2
              refine hR.mono ?_
              rintro e W3 (⟨rfl, hJ3, hk3⟩ | ⟨rfl, hJx3⟩)
              · gi_wp2
                go_roundw
                case rel => exact ⟨d + 1, by omega, by omega, by go_num, ⟨by rw [Nat.add_sub_cancel]; exact hJ3⟩⟩
                case measure => simp [intOf]; omega
              · gi_wp2
                refine bodyPost_ret (results_none rfl _ _ _) rfl ?_
                exact ⟨⟨_, rfl⟩, .inr ⟨xs.take d, List.take_prefix _ _, hJx3⟩⟩
        · clear m1p d1 b1 e1
          by_cases hlt2 : d < p
          · clear d4 hwl
            have hx : xs.getD (d - 1) 0 = (q2 : Int) + (q3 : Int) := by rw [HX.out, if_neg hd, if_pos hlt2]; omega
            obtain ⟨fn, tmps, assign, body, hy, hR⟩ := hY (xs.take (d - 1)) ((q2 : Int) + (q3 : Int)) wr HA.out (by rw [List.length_take]; omega)
            rw [← hx, ← HT.out] at hR
            clear HX HT hx HA
            gi_wp2
            refine hR.mono ?_
            rintro e W3 (⟨rfl, hJ3, hk3⟩ | ⟨rfl, hJx3⟩)
            · gi_wp2
              go_roundw
              case rel => exact ⟨d + 1, by omega, by omega, by go_num, ⟨by rw [Nat.add_sub_cancel]; exact hJ3⟩⟩
              case measure => simp [intOf]; omega
            · gi_wp2
              refine bodyPost_ret (results_none rfl _ _ _) rfl ?_
              exact ⟨⟨_, rfl⟩, .inr ⟨xs.take d, List.take_prefix _ _, hJx3⟩⟩
          · by_cases heq : d = p
            · clear d3
              have hb : ((d : Int) == (p : Int)) = true := by simp [heq]
              have hx : xs.getD (d - 1) 0 = (q2 : Int) + (q4 : Int) := by rw [HX.out, if_neg hd, if_neg hlt2, if_pos heq]; omega
              clear heq
              obtain ⟨fn, tmps, assign, body, hy, hR⟩ := hY (xs.take (d - 1)) ((q2 : Int) + (q4 : Int)) wr HA.out (by rw [List.length_take]; omega)
              rw [← hx, ← HT.out] at hR
              clear HX HT hx HA
              gi_wp2_with (refine ⟨trivial, ?_⟩; gi_at_call 27; refine (callsIn_wide.2 (len64 t ht1 ht8 _)).mono ?_; rintro e w' ⟨rfl, rfl⟩)
              refine hR.mono ?_
              rintro e W3 (⟨rfl, hJ3, hk3⟩ | ⟨rfl, hJx3⟩)
              · gi_wp2
                go_roundw
                case rel => exact ⟨d + 1, by omega, by omega, by go_num, ⟨by rw [Nat.add_sub_cancel]; exact hJ3⟩⟩
                case measure => simp [intOf]; omega
              · gi_wp2
                refine bodyPost_ret (results_none rfl _ _ _) rfl ?_
                exact ⟨⟨_, rfl⟩, .inr ⟨xs.take d, List.take_prefix _ _, hJx3⟩⟩
            · clear d3 d4 hwl
              have hb : ((d : Int) == (p : Int)) = false := by simp; omega
              have hx : xs.getD (d - 1) 0 = (q2 : Int) := by rw [HX.out, if_neg hd, if_neg hlt2, if_neg heq]; omega
              clear heq
              obtain ⟨fn, tmps, assign, body, hy, hR⟩ := hY (xs.take (d - 1)) ((q2 : Int)) wr HA.out (by rw [List.length_take]; omega)
              rw [← hx, ← HT.out] at hR
              clear HX HT hx HA
              gi_wp2
              refine hR.mono ?_
              rintro e W3 (⟨rfl, hJ3, hk3⟩ | ⟨rfl, hJx3⟩)
              · gi_wp2
                go_roundw
                case rel => exact ⟨d + 1, by omega, by omega, by go_num, ⟨by rw [Nat.add_sub_cancel]; exact hJ3⟩⟩
                case measure => simp [intOf]; omega
              · gi_wp2
                refine bodyPost_ret (results_none rfl _ _ _) rfl ?_
                exact ⟨⟨_, rfl⟩, .inr ⟨xs.take d, List.take_prefix _ _, hJx3⟩⟩
      · obtain rfl : d = k + 1 := by omega
        have HE : Aside0 (J xs wr) := ⟨by have := HA.out; rw [Nat.add_sub_cancel, List.take_of_length_le (by rw [hxs]; simp)] at this; exact this⟩
        clear HA
        gi_wp2
        go_end0
        exact ⟨⟨_, rfl⟩, .inl ⟨xs, rfl, HE.out⟩⟩

end Go.Proofs.Ytjgcfdiicjbdoaa.Pure

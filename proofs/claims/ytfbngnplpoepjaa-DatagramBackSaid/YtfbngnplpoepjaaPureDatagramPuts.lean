/-
  DatagramPuts, the pure law: whether any datagram may be, and its bytes, is as the reference says, or refused. For every datagram whose numbers are of their kinds.
-/
import Derived.Test.YtfbngnplpoepjaaPureCrcOpens
import Derived.OpenShut
import Derived.Test.YtfbngnplpoepjaaPx3
import Derived.Test.YtfbngnplpoepjaaPx5
import Derived.Test.YtfbngnplpoepjaaPx6
import Derived.Test.YtfbngnplpoepjaaPx7
import Derived.Test.YtfbngnplpoepjaaPx8
import Derived.Test.YtfbngnplpoepjaaPx9
import Derived.Test.YtfbngnplpoepjaaPx10
namespace Go.Proofs.Ytfbngnplpoepjaa.Pure
open Go.RowKit Go.Proofs.Ytfbngnplpoepjaa.Own Go.Proofs.Ytfbngnplpoepjaa.P Go.Proofs.YtfbngnplpoepjaaW.PrintWords Go.Proofs.YtfbngnplpoepjaaW.PrintLast

/-- A number's lowest i bytes, the highest first. -/
def beI : Nat → Int → List Int
  | 0, _ => []
  | i + 1, n => beI i (n / 256) ++ [n % 256]
theorem beI_length (i : Nat) (n : Int) : (beI i n).length = i := by
  induction i generalizing n with
  | zero => rfl
  | succ i ih => simp [beI, ih]
theorem nums_append (a b : List Int) : strOfNums (a ++ b) = strOfNums a ++ strOfNums b := by
  apply ByteArray.ext
  simp [strOfNums]
theorem nums_size (a : List Int) : (strOfNums a).size = a.length := by simp [strOfNums, ByteArray.size]

theorem long_l0 (i : Nat) : ∀ (k : Nat) (n : Int) (l : List Int), i ≤ l.length → i ≤ 9223372036854775807 → i < k → datagram_long.l0 k n l ((i : Int) - 1) = some (strOfNums (beI i n ++ l.drop i)) := by
  induction i with
  | zero =>
    intro k n l _ _ hk
    obtain ⟨k, rfl⟩ : ∃ m, k = m + 1 := ⟨k - 1, by omega⟩
    simp only [datagram_long.l0]
    rw [if_neg (by omega)]
    rfl
  | succ i ih =>
    intro k n l hl hm hk
    obtain ⟨k, rfl⟩ : ∃ m, k = m + 1 := ⟨k - 1, by omega⟩
    have e : (((i + 1 : Nat) : Int) - 1) = (i : Int) := by omega
    have hw : wrap64 ((i : Int) - 1) = (i : Int) - 1 := by unfold wrap64; omega
    simp only [datagram_long.l0]
    rw [e, hw]
    clear e hw
    rw [if_pos (by omega), if_pos (by omega), if_pos (by omega), ih k _ _ (by rw [List.length_set]; omega) (by omega) (by omega)]
    congr 2
    rw [beI, Int.toNat_natCast, List.append_assoc]
    congr 1
    rw [List.drop_eq_getElem_cons (by rw [List.length_set]; omega), List.getElem_set_self, List.drop_set_of_lt (by omega)]
    rfl
theorem long_f (m : Nat) (hm : m ≤ 8) (n : Int) (k : Nat) (hk : m < k) : datagram_long.f k n m = some (strOfNums (beI m n)) := by
  unfold datagram_long.f
  have hw : wrap64 ((m : Int) - 1) = (m : Int) - 1 := by unfold wrap64; omega
  rw [if_pos (by omega), if_pos (by omega), hw, Int.toNat_natCast, long_l0 m k n _ (by simp) (by omega) hk]
  simp
theorem refLong_l0 (d : Nat) : ∀ (k : Nat) (n : Int) (x : ByteArray) (i : Int), 0 ≤ n → n ≤ 18446744073709551615 → 0 ≤ i → i + d = 8 → d < k → x.size + d ≤ 1000 → downpourref11_long.l0 k n x i = some (strOfNums (beI d n) ++ x) := by
  induction d with
  | zero =>
    intro k n x i _ _ _ hd hk _
    obtain ⟨k, rfl⟩ : ∃ m, k = m + 1 := ⟨k - 1, by omega⟩
    simp only [downpourref11_long.l0]
    rw [if_neg (by omega)]
    congr 1
  | succ d ih =>
    intro k n x i h0 h1 hi hd hk hx
    obtain ⟨k, rfl⟩ : ∃ m, k = m + 1 := ⟨k - 1, by omega⟩
    have e1 : Int.tmod n 256 % 256 = n % 256 := by rw [Int.tmod_eq_emod_of_nonneg h0]; omega
    have e2 : IntKind.u64.wrap (Int.tdiv n 256) = n / 256 := by rw [Int.tdiv_eq_ediv_of_nonneg h0, IntKind.wrap_u64]; omega
    have hw : wrap64 (i + 1) = i + 1 := by unfold wrap64; omega
    simp only [downpourref11_long.l0]
    rw [e1, e2, hw]
    clear e1 e2 hw
    rw [if_pos (by omega), Option.bind_some, if_pos (by rw [nums_size]; simp; omega), ih k _ _ _ (by omega) (by omega) (by omega) (by omega) (by omega) (by rw [ByteArray.size_append, nums_size]; simp; omega)]
    rw [beI, nums_append, ByteArray.append_assoc]
theorem refLong_f (n : Int) (h0 : 0 ≤ n) (h1 : n ≤ 18446744073709551615) (k : Nat) (hk : 8 < k) : downpourref11_long.f k n = some (strOfNums (beI 8 n)) := by
  unfold downpourref11_long.f
  rw [refLong_l0 8 k n _ 0 h0 h1 (by decide) (by decide) hk (by decide)]
  congr 1

/-- May a datagram be? -/
def okD (k m : Int) (s : ByteArray) : Prop := 1 ≤ k ∧ k ≤ 64 ∧ 0 ≤ m ∧ m ≤ 64 ∧ (s.size : Int) = m
instance (k m : Int) (s : ByteArray) : Decidable (okD k m s) := inferInstanceAs (Decidable (_ ∧ _ ∧ _ ∧ _ ∧ _))
theorem right_f (a k m b : Int) (s : ByteArray) : datagram_Right.f a k m b s = some (decide (okD k m s)) := by
  unfold datagram_Right.f
  by_cases h1 : k ≥ 1
  · by_cases h2 : k ≤ 64
    · by_cases h3 : m ≥ 0
      · by_cases h4 : m ≤ 64
        · rw [if_pos h1, if_pos h2, if_pos h3, if_pos h4]
          congr 1
          by_cases h5 : (s.size : Int) = m
          · rw [decide_eq_true (show okD k m s from ⟨h1, h2, h3, h4, h5⟩)]; simpa using h5
          · rw [decide_eq_false (fun z : okD k m s => h5 z.2.2.2.2)]; simpa using h5
        · rw [if_pos h1, if_pos h2, if_pos h3, if_neg h4, decide_eq_false (fun z : okD k m s => h4 z.2.2.2.1)]
      · rw [if_pos h1, if_pos h2, if_neg h3, decide_eq_false (fun z : okD k m s => h3 z.2.2.1)]
    · rw [if_pos h1, if_neg h2, decide_eq_false (fun z : okD k m s => h2 z.2.1)]
  · rw [if_neg h1, decide_eq_false (fun z : okD k m s => h1 z.1)]
theorem refRight_f (a k m b : Int) (s : ByteArray) : downpourref11_Right.f a k m b s = some (decide (okD k m s)) := by
  rw [← right_f a k m b s]
  rfl

/-- A datagram's bytes, ahead of the sum. -/
def headOf (a k m b : Int) (s : ByteArray) : ByteArray := strOfNums [68, 1] ++ strOfNums (beI 8 a) ++ strOfNums (beI 8 b) ++ strOfNums [k % 256, m % 256] ++ s
theorem headOf_size (a k m b : Int) (s : ByteArray) : (headOf a k m b s).size = 20 + s.size := by
  unfold headOf
  simp only [ByteArray.size_append, nums_size, beI_length]
  simp
theorem Put_f (a k m b : Int) (s : ByteArray) (r : Nat) (hr : 8 < r) : datagram_Put.f r a k m b s = some (if okD k m s then (sealOf (headOf a k m b s), 0) else (⟨#[]⟩, 1)) := by
  unfold datagram_Put.f
  rw [right_f, Option.bind_some]
  by_cases ok : okD k m s
  · have hk : IntKind.u64.wrap k = k := by rw [IntKind.wrap_u64]; have := ok.1; have := ok.2.1; omega
    have hm : IntKind.u64.wrap m = m := by rw [IntKind.wrap_u64]; have := ok.2.2.1; have := ok.2.2.2.1; omega
    have hs : s.size ≤ 64 := by have := ok.2.2.2.1; have := ok.2.2.2.2; omega
    have l8 : ∀ n, datagram_long.f r n 8 = some (strOfNums (beI 8 n)) := fun n => long_f 8 (by decide) n r hr
    have l1 : ∀ n, datagram_long.f r n 1 = some (strOfNums [n % 256]) := fun n => long_f 1 (by decide) n r (by omega)
    have hc : (⟨#[68, 1]⟩ : ByteArray) = strOfNums [68, 1] := rfl
    have hh : headOf a k m b s = strOfNums [68, 1] ++ strOfNums (beI 8 a) ++ strOfNums (beI 8 b) ++ strOfNums [k % 256] ++ strOfNums [m % 256] ++ s := by
      unfold headOf
      rw [show [k % 256, m % 256] = [k % 256] ++ [m % 256] from rfl, nums_append]
      simp only [ByteArray.append_assoc]
    have z8 : ∀ n, (strOfNums (beI 8 n)).size = 8 := fun n => by rw [nums_size, beI_length]
    have z1 : ∀ n : Int, (strOfNums [n]).size = 1 := fun n => by rw [nums_size]; rfl
    have z2 : (strOfNums [68, 1]).size = 2 := rfl
    rw [if_pos (decide_eq_true ok), l8, Option.bind_some, hc, if_pos (by rw [z8]; decide), l8, Option.bind_some,
      if_pos (by simp only [ByteArray.size_append, z8, z2]; decide), hk, l1, Option.bind_some, if_pos (by simp only [ByteArray.size_append, z8, z2, z1]; decide), hm, l1, Option.bind_some,
      if_pos (by simp only [ByteArray.size_append, z8, z2, z1]; decide), if_pos (by simp only [ByteArray.size_append, z8, z2, z1]; omega), ← hh, Seal_f _ (by rw [headOf_size]; omega), Option.bind_some, if_pos ok]
  · rw [if_neg (by simpa using ok), if_neg ok]
theorem refPut_f (a k m b : Int) (s : ByteArray) (ok : okD k m s) (ha : 0 ≤ a ∧ a ≤ 18446744073709551615) (hb : 0 ≤ b ∧ b ≤ 18446744073709551615) (r : Nat) (hr : 1000 < r) : downpourref11_Put.f r a k m b s = some (sealOf (headOf a k m b s)) := by
  have hs : s.size ≤ 64 := by have := ok.2.2.2.1; have := ok.2.2.2.2; omega
  have z8 : ∀ n, (strOfNums (beI 8 n)).size = 8 := fun n => by rw [nums_size, beI_length]
  have z2 : ∀ x y : Int, (strOfNums [x, y]).size = 2 := fun x y => by rw [nums_size]; rfl
  unfold downpourref11_Put.f
  rw [Option.bind_some, refLong_f a ha.1 ha.2 r (by omega), Option.bind_some, if_pos (by rw [z8, z2]; decide), refLong_f b hb.1 hb.2 r (by omega), Option.bind_some,
    if_pos (by simp only [ByteArray.size_append, z8, z2]; decide), Option.bind_some, if_pos (by simp only [ByteArray.size_append, z8, z2]; decide), if_pos (by simp only [ByteArray.size_append, z8, z2]; omega)]
  show (downpourref10_Seal.f r (headOf a k m b s)).bind _ = _
  rw [refSeal_mono _ (by rw [headOf_size]; omega) r (by rw [headOf_size]; omega), Option.bind_some]
theorem alive11 (r : Nat) (hr : 8 < r) : downpourlaw11_alive.f r = some true := by
  unfold downpourlaw11_alive.f
  have ok : okD 1 0 ⟨#[]⟩ := by unfold okD; decide
  rw [Put_f _ _ _ _ _ r hr, Option.bind_some, if_pos ok, if_pos rfl, sealOf_size, headOf_size]
  rfl
theorem cut11 (s : ByteArray) : ∃ t : ByteArray, downpourlaw11_cut.f s = some t ∧ t.size ≤ 100 := by
  unfold downpourlaw11_cut.f
  have h : 0 ≤ mn (s.size : Int) 100 ∧ mn (s.size : Int) 100 ≤ s.size ∧ mn (s.size : Int) 100 ≤ 100 := by unfold mn; split <;> omega
  rw [if_pos h.1, if_pos h.2.1]
  refine ⟨_, rfl, ?_⟩
  rw [ByteArray.size_extract]
  omega

theorem DatagramPuts (a k m b : Int) (s : ByteArray) (ha : (Lit.int .u64 a).wf = true) (hb : (Lit.int .u64 b).wf = true) : downpourlaw11_DatagramPuts.f 1002 a k m b s = some true := by
  obtain ⟨t, ht, _⟩ := cut11 s
  unfold downpourlaw11_DatagramPuts.f
  rw [ht, Option.bind_some, Put_f _ _ _ _ _ 1002 (by decide), Option.bind_some, right_f, Option.bind_some, refRight_f, Option.bind_some, if_neg (by simp), alive11 1002 (by decide), Option.bind_some]
  simp only [downpourlaw11_DatagramPuts.j0]
  rw [if_neg (by decide), refRight_f, Option.bind_some]
  by_cases ok : okD k m t
  · rw [if_pos ok, if_pos (decide_eq_true ok), if_pos rfl, refPut_f a k m b t ok (bounds_u64 ha) (bounds_u64 hb) 1001 (by decide), Option.bind_some]
    simp
  · rw [if_neg ok, if_neg (by simpa using ok), if_pos rfl, ByteArray.toList_eq]
    rfl

end Go.Proofs.Ytfbngnplpoepjaa.Pure

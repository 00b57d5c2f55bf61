/-
  CrcSums, the pure law: any text's sum, any sum behind more bytes, and any text sealed, are as the reference says. For every input.
-/
import Derived.Test.YtfbngnplpoepjaaPureCrcParts
import Derived.Test.YtfbngnplpoepjaaPx1
import Derived.Test.YtfbngnplpoepjaaPx3
import Derived.Test.YtfbngnplpoepjaaPx4
namespace Go.Proofs.Ytfbngnplpoepjaa.Pure
open Go.RowKit Go.Proofs.Ytfbngnplpoepjaa.Own Go.Proofs.Ytfbngnplpoepjaa.P Go.Proofs.YtfbngnplpoepjaaW.PrintWords Go.Proofs.YtfbngnplpoepjaaW.PrintLast

theorem ref_step (x : Nat) (h : x < 2 ^ 32) : (if Int.tmod (x : Int) 2 = 1 then Go.bits .xor .u32 ((Int.tdiv (x : Int) 2) % 4294967296) 2197175160 else (Int.tdiv (x : Int) 2) % 4294967296) = ((stp x : Nat) : Int) := by
  have e1 : Int.tmod (x : Int) 2 = ((x % 2 : Nat) : Int) := by rw [Int.tmod_eq_emod_of_nonneg (by omega)]; omega
  have e2 : Int.tdiv (x : Int) 2 % 4294967296 = ((x / 2 : Nat) : Int) := by rw [Int.tdiv_eq_ediv_of_nonneg (by omega)]; omega
  rw [e1, e2]
  unfold stp
  have : x % 2 = 0 ∨ x % 2 = 1 := by omega
  rcases this with p | p <;> rw [p]
  · simp
  · rw [if_pos (show ((1 : Nat) : Int) = 1 from rfl), show (2197175160 : Int) = ((2197175160 : Nat) : Int) from rfl, u32_xor_nat _ _ (by omega) (by decide)]
theorem ref_l1 (s : ByteArray) (i : Int) (d : Nat) : ∀ (k x : Nat) (j : Int), 0 ≤ j → j + d = 8 → x < 2 ^ 32 → downpourref10_More.l1 (k + d + 1) s x i j = downpourref10_More.l0 (k) s (its d x : Nat) (wrap64 (i + 1)) := by
  induction d with
  | zero => intro k x j h0 hj hx; simp only [downpourref10_More.l1]; rw [if_neg (by omega)]; rfl
  | succ d ih =>
    intro k x j h0 hj hx
    have hw : wrap64 (j + 1) = j + 1 := by unfold wrap64; omega
    have hs := ref_step x hx
    have := ih k (stp x) (j + 1) (by omega) (by omega) (stp_lt hx)
    rw [← hs] at this
    simp only [its]
    rw [← this]
    rw [show k + (d + 1) + 1 = (k + d + 1) + 1 by omega]
    simp only [downpourref10_More.l1]
    rw [if_pos (by omega), hw]
    split <;> rfl
theorem ref_l0 (s : ByteArray) (hs : s.size ≤ 9223372036854775806) (d : Nat) : ∀ (x i : Nat), i + d = s.size → x < 2 ^ 32 → downpourref10_More.l0 (10 * d + 1) s x i = some ((4294967295 - reg x (s.data.toList.drop i) : Nat) : Int) := by
  induction d with
  | zero =>
    intro x i hi hx
    simp only [downpourref10_More.l0]
    rw [if_neg (by omega), List.drop_of_length_le (by rw [data_length]; omega), reg]
    congr 1; omega
  | succ d ih =>
    intro x i hi hx
    rw [show 10 * (d + 1) + 1 = (10 * d + 1 + 8 + 1) + 1 by omega]
    simp only [downpourref10_More.l0]
    rw [if_pos (by omega), if_pos (by omega)]
    have hi' : i < s.data.toList.length := by rw [data_length]; omega
    have hb : bt s (i : Int) = ((s.data.toList[i].toNat : Nat) : Int) := by
      rw [← rd_bytesOf]; unfold rd bytesOf
      simp [List.getD_eq_getElem?_getD, List.getElem?_eq_getElem hi']
    have hlt := (s.data.toList[i]).toNat_lt
    rw [hb, show (((s.data.toList[i].toNat : Nat) : Int) % 4294967296) = ((s.data.toList[i].toNat : Nat) : Int) by omega, u32_xor_nat _ _ (by omega) (by omega)]
    have hx' : x ^^^ s.data.toList[i].toNat < 2 ^ 32 := Nat.xor_lt_two_pow hx (by omega)
    rw [ref_l1 s i 8 (10 * d + 1) _ 0 (by omega) (by omega) hx', show wrap64 ((i : Int) + 1) = ((i + 1 : Nat) : Int) by unfold wrap64; omega,
      ih _ (i + 1) (by omega) (its_lt 8 hx'), List.drop_eq_getElem_cons hi', reg]
theorem refMore (c : Nat) (h : c < 2 ^ 32) (s : ByteArray) (hs : s.size ≤ 9223372036854775806) : downpourref10_More.f (10 * s.size + 1) (c : Int) s = some ((sumOf c s.data.toList : Nat) : Int) := by
  unfold downpourref10_More.f sumOf
  rw [show ((4294967295 - (c : Int)) % 4294967296) = ((4294967295 - c : Nat) : Int) by omega, show (0 : Int) = ((0 : Nat) : Int) from rfl, ref_l0 s hs s.size _ 0 (by omega) (by omega), List.drop_zero]

/-- A sum as 4 bytes, the lowest first. -/
def four (c : Nat) : List UInt8 := [UInt8.ofNat (c % 256), UInt8.ofNat (c / 256 % 256), UInt8.ofNat (c / 65536 % 256), UInt8.ofNat (c / 16777216 % 256)]
/-- A text sealed. -/
def sealOf (s : ByteArray) : ByteArray := s ++ ⟨(four (sumOf 0 s.data.toList)).toArray⟩
theorem sealOf_list (s : ByteArray) : (sealOf s).data.toList = s.data.toList ++ four (sumOf 0 s.data.toList) := by
  simp [sealOf]
theorem sealOf_size (s : ByteArray) : (sealOf s).size = s.size + 4 := by
  rw [← data_length, sealOf_list, List.length_append, data_length]; rfl

theorem Sum_f (s : ByteArray) (hs : s.size ≤ 9223372036854775806) : crc_Sum.f s = some ((sumOf 0 s.data.toList : Nat) : Int) := by
  unfold crc_Sum.f
  rw [show (0 : Int) = ((0 : Nat) : Int) from rfl, more_f 0 (by decide) _ (by omega)]; rfl

theorem four_nums (c : Nat) : strOfNums [(c : Int) % 256, (c : Int) / 256 % 256, (c : Int) / 65536 % 256, (c : Int) / 16777216 % 256] = ⟨(four c).toArray⟩ := by
  unfold strOfNums four
  simp only [List.map_cons, List.map_nil]
  rw [show ((c : Int) % 256).toNat = c % 256 by omega, show ((c : Int) / 256 % 256).toNat = c / 256 % 256 by omega,
    show ((c : Int) / 65536 % 256).toNat = c / 65536 % 256 by omega, show ((c : Int) / 16777216 % 256).toNat = c / 16777216 % 256 by omega]
theorem Seal_f (s : ByteArray) (hs : s.size ≤ 9223372036854775800) : crc_Seal.f s = some (sealOf s) := by
  unfold crc_Seal.f
  rw [Sum_f s (by omega), Option.bind_some, Option.bind_some, four_nums _, if_pos]
  · rfl
  · show s.size + 4 ≤ _
    omega
theorem refSeal_f (s : ByteArray) (hs : s.size ≤ 9223372036854775800) : downpourref10_Seal.f (10 * s.size + 1) s = some (sealOf s) := by
  unfold downpourref10_Seal.f
  have h := sumOf_lt 0 s.data.toList
  have e : ∀ c : Nat, c < 2 ^ 32 → [Int.tmod (c : Int) 256 % 256, Int.tdiv (c : Int) 256 % 4294967296 % 256, Int.tdiv (c : Int) 65536 % 4294967296 % 256, Int.tdiv (c : Int) 16777216 % 4294967296 % 256] = [(c : Int) % 256, (c : Int) / 256 % 256, (c : Int) / 65536 % 256, (c : Int) / 16777216 % 256] := by
    intro c hc
    rw [Int.tmod_eq_emod_of_nonneg (by omega), Int.tdiv_eq_ediv_of_nonneg (by omega), Int.tdiv_eq_ediv_of_nonneg (by omega), Int.tdiv_eq_ediv_of_nonneg (by omega)]
    refine congr (congrArg _ ?_) (congr (congrArg _ ?_) (congr (congrArg _ ?_) (congr (congrArg _ ?_) rfl))) <;> omega
  rw [show (0 : Int) = ((0 : Nat) : Int) from rfl, refMore 0 (by decide) s (by omega), Option.bind_some, Option.bind_some]
  rw [e _ h, four_nums _, if_pos]
  · rfl
  · show s.size + 4 ≤ _
    omega
theorem refSeal_mono (s : ByteArray) (hs : s.size ≤ 9223372036854775800) (k : Nat) (hk : 10 * s.size + 1 ≤ k) : downpourref10_Seal.f k s = some (sealOf s) := by
  induction hk with
  | refl => exact refSeal_f s hs
  | step _ ih => exact downpourref10_Seal.mono _ _ _ ih

theorem CrcSums : downpourlaw10_CrcSums.Pure := by
  intro a0 a1 h0 h1
  obtain ⟨t, ht, hn⟩ := cut10 a1
  obtain ⟨c, rfl, hc⟩ : ∃ c : Nat, a0 = c ∧ c < 2 ^ 32 := u32_nat h0
  refine ⟨10 * t.size + 1, ?_⟩
  unfold downpourlaw10_CrcSums.f
  rw [ht, Option.bind_some, alive10, Option.bind_some, if_pos rfl, Sum_f t (by omega), Option.bind_some, show (0 : Int) = ((0 : Nat) : Int) from rfl, refMore 0 (by decide) t (by omega), Option.bind_some,
    if_pos rfl, more_f c hc t (by omega), Option.bind_some, refMore c hc t (by omega), Option.bind_some, if_pos rfl, Seal_f t (by omega), Option.bind_some, refSeal_f t (by omega), Option.bind_some]
  simp

end Go.Proofs.Ytfbngnplpoepjaa.Pure

/-
  CrcParts, the pure law: a sum goes on over parts, wherever they are cut; nothing more leaves it. For every input.
-/
import Derived.Test.YtfbngnplpoepjaaCrcPlain
import Derived.Test.YtfbngnplpoepjaaPx1
import Derived.Test.YtfbngnplpoepjaaPx2
namespace Go.Proofs.Ytfbngnplpoepjaa.Pure
open Go.RowKit Go.Proofs.Ytfbngnplpoepjaa.Own Go.Proofs.Ytfbngnplpoepjaa.P Go.Proofs.YtfbngnplpoepjaaW.PrintWords Go.Proofs.YtfbngnplpoepjaaW.PrintLast

theorem tmod_bd (a n : Int) (h : 0 < n) : -n < Int.tmod a n ∧ Int.tmod a n < n := by
  refine ⟨?_, Int.tmod_lt_of_pos a h⟩
  have := Int.tmod_lt_of_pos (-a) h
  rw [Int.neg_tmod] at this
  omega
theorem tmod_pos (a n : Int) (ha : 0 ≤ a) (h : 0 < n) : 0 ≤ Int.tmod a n ∧ Int.tmod a n < n := ⟨Int.tmod_nonneg n ha, Int.tmod_lt_of_pos a h⟩

theorem cut10 (s : ByteArray) : ∃ t : ByteArray, downpourlaw10_cut.f s = some t ∧ t.size ≤ 300 := by
  unfold downpourlaw10_cut.f
  have h : 0 ≤ mn (s.size : Int) 300 ∧ mn (s.size : Int) 300 ≤ s.size ∧ mn (s.size : Int) 300 ≤ 300 := by unfold mn; split <;> omega
  rw [if_pos h.1, if_pos h.2.1]
  refine ⟨_, rfl, ?_⟩
  rw [ByteArray.size_extract]
  omega
theorem alive10 : downpourlaw10_alive.f = some true := by
  unfold downpourlaw10_alive.f crc_Sum.f
  rw [show (0 : Int) = ((0 : Nat) : Int) from rfl, more_f 0 (by decide) _ (by decide)]
  simp only [Option.bind_some]
  rw [show sumOf 0 (⟨#[49, 50, 51, 52, 53, 54, 55, 56, 57]⟩ : ByteArray).data.toList = 3808858755 from sum_alive]
  rfl
theorem extract_list (s : ByteArray) (a b : Nat) : (s.extract a b).data.toList = (s.data.toList.take b).drop a := by
  simp [List.drop_take]
theorem u32_nat {n : Int} (h : (Lit.int .u32 n).wf = true) : ∃ c : Nat, n = c ∧ c < 2 ^ 32 := by
  have : 0 ≤ n ∧ n < 4294967296 := by
    have := h
    simp [Lit.wf] at this
    have e1 : IntKind.u32.min = 0 := rfl
    have e2 : IntKind.u32.max = 4294967295 := rfl
    omega
  exact ⟨n.toNat, by omega, by omega⟩
theorem CrcParts : downpourlaw10_CrcParts.Pure := by
  intro a0 a1 a2 a3 h0 h1 h2 h3
  obtain ⟨t, ht, hn⟩ := cut10 a1
  obtain ⟨c, rfl, hc⟩ := u32_nat h0
  unfold downpourlaw10_CrcParts.f
  rw [ht, Option.bind_some]
  have e1 : wrap64 ((t.size : Int) + 1) = (t.size : Int) + 1 := by unfold wrap64; omega
  rw [e1]; clear e1
  have b1 := tmod_bd a2 ((t.size : Int) + 1) (by omega)
  generalize Int.tmod a2 ((t.size : Int) + 1) = u at b1 ⊢
  have e2 : wrap64 (wrap64 (u + (t.size : Int)) + 1) = u + (t.size : Int) + 1 := by unfold wrap64; omega
  rw [e2]; clear e2
  have b2 := tmod_pos (u + (t.size : Int) + 1) ((t.size : Int) + 1) (by omega) (by omega)
  generalize Int.tmod (u + (t.size : Int) + 1) ((t.size : Int) + 1) = i at b2 ⊢
  have e3 : wrap64 (wrap64 ((t.size : Int) - i) + 1) = (t.size : Int) - i + 1 := by unfold wrap64; omega
  rw [e3]; clear e3
  have b3 := tmod_bd a3 ((t.size : Int) - i + 1) (by omega)
  generalize Int.tmod a3 ((t.size : Int) - i + 1) = v at b3 ⊢
  have e4 : wrap64 (wrap64 (wrap64 (v + (t.size : Int)) - i) + 1) = v + (t.size : Int) - i + 1 := by unfold wrap64; omega
  rw [e4]; clear e4
  have b4 := tmod_pos (v + (t.size : Int) - i + 1) ((t.size : Int) - i + 1) (by omega) (by omega)
  generalize Int.tmod (v + (t.size : Int) - i + 1) ((t.size : Int) - i + 1) = j at b4 ⊢
  have e5 : wrap64 (i + j) = i + j := by unfold wrap64; omega
  rw [e5]; clear e5
  obtain ⟨i, rfl⟩ := Int.eq_ofNat_of_zero_le b2.1
  obtain ⟨j, rfl⟩ := Int.eq_ofNat_of_zero_le b4.1
  rw [if_neg (by omega), if_neg (by omega), if_pos (by omega), if_pos (by omega)]
  have sz : ∀ a b, (t.extract a b).size ≤ 9223372036854775807 := fun a b => by rw [ByteArray.size_extract]; omega
  rw [more_f c hc _ (sz _ _), Option.bind_some]
  rw [if_pos (by omega), if_pos (by omega), more_f _ (sumOf_lt _ _) _ (sz _ _), Option.bind_some]
  rw [if_pos (by omega), more_f _ (sumOf_lt _ _) _ (sz _ _), Option.bind_some, alive10, Option.bind_some]
  rw [if_pos rfl, more_f c hc _ (by omega), Option.bind_some]
  have key : sumOf (sumOf (sumOf c (t.extract 0 (i : Int).toNat).data.toList) (t.extract (i : Int).toNat ((i : Int) + j).toNat).data.toList) (t.extract ((i : Int) + j).toNat t.size).data.toList = sumOf c t.data.toList := by
    rw [← sumOf_append, ← sumOf_append, extract_list, extract_list, extract_list]
    congr 1
    rw [show (i : Int).toNat = i from rfl, show ((i : Int) + j).toNat = i + j by omega, List.drop_zero,
      List.take_of_length_le (l := t.data.toList) (i := t.size) (by rw [data_length]; omega)]
    have h1 : (t.data.toList.take (i + j)).drop i ++ t.data.toList.drop (i + j) = t.data.toList.drop i := by
      rw [List.drop_take, Nat.add_sub_cancel_left, ← List.drop_drop, List.take_append_drop]
    rw [h1, List.take_append_drop]
  rw [key, if_pos rfl, more_f c hc _ (by decide), Option.bind_some]
  rw [sumOf_nil c hc, if_pos rfl]
  unfold crc_Sum.f
  rw [show (0 : Int) = ((0 : Nat) : Int) from rfl, more_f 0 (by decide) _ (by omega), Option.bind_some]
  simp

end Go.Proofs.Ytfbngnplpoepjaa.Pure

/-
  CrcOpens, the pure law: any sealed text opened is as the reference says, or refused. For every input.
-/
import Derived.Test.YtfbngnplpoepjaaPureCrcSums
import Derived.Test.YtfbngnplpoepjaaPx4
import Derived.Test.YtfbngnplpoepjaaPx5
namespace Go.Proofs.Ytfbngnplpoepjaa.Pure
open Go.RowKit Go.Proofs.Ytfbngnplpoepjaa.Own Go.Proofs.Ytfbngnplpoepjaa.P Go.Proofs.YtfbngnplpoepjaaW.PrintWords Go.Proofs.YtfbngnplpoepjaaW.PrintLast

/-- What crc.Open tells. -/
def openOf (s : ByteArray) : ByteArray × Int := if 4 ≤ s.size ∧ sealOf (s.extract 0 (s.size - 4)) = s then (s.extract 0 (s.size - 4), 0) else (⟨#[]⟩, 5)
theorem toList_inj {a b : ByteArray} : a.toList = b.toList ↔ a = b := by
  rw [ByteArray.toList_eq, ByteArray.toList_eq]
  constructor
  · intro h
    apply ByteArray.ext
    exact Array.toList_inj.mp h
  · intro h; rw [h]
theorem less4 (s : ByteArray) (hs : s.size ≤ 9223372036854775800) : wrap64 ((s.size : Int) - 4) = (s.size : Int) - 4 := by unfold wrap64; omega
theorem Open_f (s : ByteArray) (hs : s.size ≤ 9223372036854775800) : crc_Open.f s = some (openOf s) := by
  unfold crc_Open.f openOf
  rw [less4 s hs]
  by_cases h : s.size < 4
  · rw [if_pos (by omega), if_neg (by omega)]
  · have e : ((s.size : Int) - 4).toNat = s.size - 4 := by omega
    rw [if_neg (by omega), if_pos (by omega), if_pos (by omega), e, Seal_f _ (by rw [ByteArray.size_extract]; omega), Option.bind_some]
    by_cases q : sealOf (s.extract 0 (s.size - 4)) = s
    · rw [if_pos (toList_inj.mpr q), if_pos ⟨by omega, q⟩]
    · rw [if_neg (fun z => q (toList_inj.mp z)), if_neg (fun z => q z.2)]

theorem CrcOpens : downpourlaw10_CrcOpens.Pure := by
  intro a0 h0
  obtain ⟨t, ht, hn⟩ := cut10 a0
  refine ⟨10 * t.size + 2, ?_⟩
  unfold downpourlaw10_CrcOpens.f
  rw [ht, Option.bind_some, Open_f t (by omega), Option.bind_some]
  unfold openOf
  by_cases h : t.size < 4
  · rw [if_pos (by omega), if_neg (by omega)]
    simp only [downpourlaw10_CrcOpens.j0]
    rw [if_pos trivial, alive10, Option.bind_some, if_pos rfl, if_pos trivial, ByteArray.toList_eq]
    rfl
  · have e : ((t.size : Int) - 4).toNat = t.size - 4 := by omega
    rw [if_neg (by omega), less4 t (by omega), if_pos (by omega), if_pos (by omega), e, refSeal_mono _ (by rw [ByteArray.size_extract]; omega) _ (by rw [ByteArray.size_extract]; omega), Option.bind_some]
    by_cases q : sealOf (t.extract 0 (t.size - 4)) = t
    · rw [if_pos ⟨by omega, q⟩]
      simp only [downpourlaw10_CrcOpens.j0]
      rw [if_neg (by rw [q]; simp), alive10, Option.bind_some, if_pos rfl, if_pos trivial, less4 t (by omega), if_pos (by omega), if_pos (by omega), e]
      simp
    · rw [if_neg (fun z => q z.2)]
      simp only [downpourlaw10_CrcOpens.j0]
      rw [if_pos (by simpa using fun z => q (toList_inj.mp z)), alive10, Option.bind_some, if_pos rfl, if_pos trivial, ByteArray.toList_eq]
      rfl

end Go.Proofs.Ytfbngnplpoepjaa.Pure

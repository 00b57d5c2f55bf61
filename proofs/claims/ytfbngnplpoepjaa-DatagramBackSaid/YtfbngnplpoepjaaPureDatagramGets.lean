/-
  DatagramGets, the pure law: the datagram that any bytes tell is as the reference says, or refused. For every input.
-/
import Derived.Test.YtfbngnplpoepjaaPlainGets
import Derived.Test.YtfbngnplpoepjaaQx2
namespace Go.Proofs.Ytfbngnplpoepjaa.Pure
open Go.RowKit Go.Proofs.Ytfbngnplpoepjaa.Own Go.Proofs.Ytfbngnplpoepjaa.P Go.Proofs.Ytfbngnplpoepjaa.Q Go.Proofs.YtfbngnplpoepjaaW.PrintWords Go.Proofs.YtfbngnplpoepjaaW.PrintLast

theorem bt_list (s : ByteArray) (i : Nat) (h : i < s.size) : bt s (i : Int) = ((s.data.toList.getD i 0).toNat : Int) := by
  have hi' : i < s.data.toList.length := by rw [data_length]; omega
  rw [← rd_bytesOf]; unfold rd bytesOf
  simp [List.getD_eq_getElem?_getD, List.getElem?_eq_getElem hi']
theorem refNum_l0 (s : ByteArray) (h8 : s.size = 8) (d : Nat) : ∀ (k x i : Nat), i + d = 8 → d < k → (x + 1) * 256 ^ d ≤ 18446744073709551616 → downpourref11_number.l0 k s x i = some ((nval x (s.data.toList.drop i) : Nat) : Int) := by
  induction d with
  | zero =>
    intro k x i hi hk _
    obtain ⟨k, rfl⟩ : ∃ m, k = m + 1 := ⟨k - 1, by omega⟩
    simp only [downpourref11_number.l0]
    rw [if_neg (by omega), List.drop_of_length_le (by rw [data_length]; omega)]
    rfl
  | succ d ih =>
    intro k x i hi hk hx
    obtain ⟨k, rfl⟩ : ∃ m, k = m + 1 := ⟨k - 1, by omega⟩
    have hi' : i < s.data.toList.length := by rw [data_length]; omega
    simp only [downpourref11_number.l0]
    rw [if_pos (by omega), if_pos (by omega), if_pos (by omega), bt_list s i (by omega), show wrap64 ((i : Int) + 1) = ((i + 1 : Nat) : Int) by unfold wrap64; omega]
    have hb : s.data.toList.getD i 0 = s.data.toList[i] := by simp [List.getD_eq_getElem?_getD, List.getElem?_eq_getElem hi']
    rw [hb]
    have h2 := (s.data.toList[i]).toNat_lt
    rw [Nat.pow_succ, Nat.mul_comm (256 ^ d) 256, ← Nat.mul_assoc] at hx
    have h3 : 1 ≤ 256 ^ d := Nat.pow_pos (by decide)
    have h4 : (x + 1) * 256 * 1 ≤ (x + 1) * 256 * 256 ^ d := Nat.mul_le_mul_left _ h3
    have h5 : (x * 256 + (s.data.toList[i]).toNat + 1) * 256 ^ d ≤ (x + 1) * 256 * 256 ^ d := Nat.mul_le_mul_right _ (by omega)
    have e : IntKind.u64.wrap (IntKind.u64.wrap (256 * (x : Int)) + IntKind.u64.wrap ((s.data.toList[i]).toNat : Int)) = ((x * 256 + (s.data.toList[i]).toNat : Nat) : Int) := by
      rw [IntKind.wrap_u64, IntKind.wrap_u64, IntKind.wrap_u64]; omega
    rw [e, ih k _ (i + 1) (by omega) (by omega) (by omega), List.drop_eq_getElem_cons hi', nval]
theorem refNum_f (s : ByteArray) (h8 : s.size = 8) (k : Nat) (hk : 8 < k) : downpourref11_number.f k s = some (nfold 0 s.data.toList) := by
  unfold downpourref11_number.f
  rw [show (0 : Int) = ((0 : Nat) : Int) from rfl, refNum_l0 s h8 8 k 0 0 (by decide) hk (by decide), List.drop_zero, nfold_nval 0 _ (by rw [data_length, h8]; decide)]

theorem Get_f (s : ByteArray) (hs : s.size ≤ 9223372036854775800) : datagram_Get.f s = some (getOf s) := by
  unfold datagram_Get.f
  rw [if_pos hs]
/-- What the reader tells, by places in the whole. -/
theorem getT_at (s : ByteArray) (h : 24 ≤ s.size) : getT (s.extract 0 (s.size - 4)) = (nfold 0 (s.extract 2 10).data.toList, bt s 18, bt s 19, nfold 0 (s.extract 10 18).data.toList, s.extract 20 (s.size - 4)) := by
  have hl : 24 ≤ s.data.toList.length := by rw [data_length]; exact h
  have hsz : s.size = s.data.toList.length := (data_length s).symm
  have end_ : ∀ (s : ByteArray) (a : Nat), (s.extract a s.size).data.toList = s.data.toList.drop a := fun s a => by
    rw [extract_list, List.take_of_length_le (by rw [data_length]; omega)]
  have e2 : ∀ (t : ByteArray), (t.extract 2 t.size).data.toList = t.data.toList.drop 2 := fun t => end_ t 2
  have one : ∀ (t : ByteArray) (i : Nat), t.data.toList = (s.data.toList.take (s.data.toList.length - 4)).drop i → i < s.data.toList.length - 4 → nfold 0 (t.extract 0 1).data.toList = bt s (i : Int) := by
    intro t i ht hi
    rw [bt_list s i (by omega), extract_list, ht, List.drop_zero]
    have hi' : i < s.data.toList.length := by omega
    have : ((s.data.toList.take (s.data.toList.length - 4)).drop i).take 1 = [s.data.toList.getD i 0] := by
      rw [List.drop_eq_getElem_cons (by rw [List.length_take]; omega)]
      simp [List.getD_eq_getElem?_getD, List.getElem?_eq_getElem hi']
    rw [this, nfold_one]
  unfold getT
  simp only
  generalize hr1 : (s.extract 0 (s.size - 4)).extract 2 (s.extract 0 (s.size - 4)).size = r1
  generalize hr2 : r1.extract 8 r1.size = r2
  generalize hr3 : r2.extract 8 r2.size = r3
  generalize hr4 : r3.extract 1 r3.size = r4
  generalize hr5 : r4.extract 1 r4.size = r5
  have b1 : r1.data.toList = (s.data.toList.take (s.data.toList.length - 4)).drop 2 := by rw [← hr1, end_, extract_list, List.drop_zero, hsz]
  have b2 : r2.data.toList = (s.data.toList.take (s.data.toList.length - 4)).drop 10 := by rw [← hr2, end_, b1, List.drop_drop]
  have b3 : r3.data.toList = (s.data.toList.take (s.data.toList.length - 4)).drop 18 := by rw [← hr3, end_, b2, List.drop_drop]
  have b4 : r4.data.toList = (s.data.toList.take (s.data.toList.length - 4)).drop 19 := by rw [← hr4, end_, b3, List.drop_drop]
  have b5 : r5.data.toList = (s.data.toList.take (s.data.toList.length - 4)).drop 20 := by rw [← hr5, end_, b4, List.drop_drop]
  have c1 : (r1.extract 0 8).data.toList = (s.extract 2 10).data.toList := by
    rw [extract_list, extract_list, b1, List.drop_zero, List.take_drop, List.take_take, Nat.min_eq_left (by omega)]
  have c2 : (r2.extract 0 8).data.toList = (s.extract 10 18).data.toList := by
    rw [extract_list, extract_list, b2, List.drop_zero, List.take_drop, List.take_take, Nat.min_eq_left (by omega)]
  rw [c1, c2, one r3 18 b3 (by omega), one r4 19 b4 (by omega)]
  have c5 : r5 = s.extract 20 (s.size - 4) := by
    apply bytes_ext
    rw [b5, extract_list, hsz]
  rw [c5]
  rfl
theorem seal_inj {h s : ByteArray} (e : sealOf h = s) : h = s.extract 0 (s.size - 4) := by
  subst e
  apply bytes_ext
  rw [extract_list, sealOf_size, sealOf_list, Nat.add_sub_cancel, List.drop_zero, ← data_length, List.take_left]
/-- The datagram that bytes tell: the one whose bytes these are. -/
theorem getOf_is (s : ByteArray) : getOf s = (if 24 ≤ s.size ∧ okD (bt s 18) (bt s 19) (s.extract 20 (s.size - 4)) ∧
    sealOf (headOf (nfold 0 (s.extract 2 10).data.toList) (bt s 18) (bt s 19) (nfold 0 (s.extract 10 18).data.toList) (s.extract 20 (s.size - 4))) = s
    then (nfold 0 (s.extract 2 10).data.toList, bt s 18, bt s 19, nfold 0 (s.extract 10 18).data.toList, s.extract 20 (s.size - 4), 0) else noneD) := by
  by_cases h24 : 24 ≤ s.size
  · have hT := getT_at s h24
    have htz : (s.extract 0 (s.size - 4)).size = s.size - 4 := by rw [ByteArray.size_extract]; omega
    generalize hA : nfold 0 (s.extract 2 10).data.toList = a at hT ⊢
    generalize hB : nfold 0 (s.extract 10 18).data.toList = b at hT ⊢
    generalize bt s 18 = k at hT ⊢
    generalize bt s 19 = m at hT ⊢
    generalize s.extract 20 (s.size - 4) = d at hT ⊢
    have hH := head_getT (s.extract 0 (s.size - 4)) (by omega)
    rw [hT] at hH
    simp only at hH
    by_cases hP : okD k m d ∧ sealOf (headOf a k m b d) = s
    · obtain ⟨ok, hs⟩ := hP
      rw [if_pos ⟨h24, ok, hs⟩]
      have ht := seal_inj hs
      have ho : openOf s = (s.extract 0 (s.size - 4), 0) := by
        unfold openOf
        rw [← ht, if_pos ⟨by omega, hs⟩]
      have hm : (s.extract 0 (s.size - 4)).extract 0 2 = ⟨#[68, 1]⟩ := by
        rw [← ht]
        rw [← ht] at hH
        rw [hH]
        apply bytes_ext
        rw [extract_list, ByteArray.data_append, Array.toList_append, List.drop_zero]
        rfl
      unfold getOf
      rw [ho]
      simp only
      rw [if_pos ⟨trivial, by omega, hm⟩]
      unfold readD
      rw [hT]
      simp only
      rw [if_pos ok]
    · rw [if_neg (fun z => hP z.2)]
      unfold getOf
      split
      · rename_i hc
        obtain ⟨h1, h2, h3⟩ := hc
        unfold openOf at h1 h2 h3 ⊢
        by_cases hs : 4 ≤ s.size ∧ sealOf (s.extract 0 (s.size - 4)) = s
        · rw [if_pos hs] at h1 h2 h3 ⊢
          simp only at h1 h2 h3 ⊢
          have hh := getT_head (s.extract 0 (s.size - 4)) h2 h3
          rw [hT] at hh
          simp only at hh
          unfold readD
          rw [hT]
          simp only
          rw [if_neg]
          intro ok
          exact hP ⟨ok, by rw [hh]; exact hs.2⟩
        · rw [if_neg hs] at h1
          simp at h1
      · rfl
  · rw [if_neg (fun z => h24 z.1)]
    unfold getOf
    rw [if_neg]
    rintro ⟨_, h2, _⟩
    unfold openOf at h2
    split at h2
    · simp only [ByteArray.size_extract] at h2; omega
    · exact absurd h2 (by decide)

theorem bt_bd (s : ByteArray) (i : Int) : 0 ≤ bt s i ∧ bt s i ≤ 255 := bt_range s i
theorem num_bd (l : List UInt8) (h : l.length = 8) : 0 ≤ nfold 0 l ∧ nfold 0 l ≤ 18446744073709551615 := by
  have h1 := nfold_nval 0 l (by rw [h]; decide)
  rw [show ((0 : Nat) : Int) = 0 from rfl] at h1
  have h2 := nval_lt 0 l
  rw [h, show (0 + 1) * 256 ^ 8 = 18446744073709551616 by decide] at h2
  rw [h1]
  omega
theorem refGet_f (s : ByteArray) (hs : s.size ≤ 100) (r : Nat) (hr : 1000 < r) : downpourref11_Get.f r s = some (if 24 ≤ s.size ∧ okD (bt s 18) (bt s 19) (s.extract 20 (s.size - 4)) ∧
    sealOf (headOf (nfold 0 (s.extract 2 10).data.toList) (bt s 18) (bt s 19) (nfold 0 (s.extract 10 18).data.toList) (s.extract 20 (s.size - 4))) = s
    then (nfold 0 (s.extract 2 10).data.toList, bt s 18, bt s 19, nfold 0 (s.extract 10 18).data.toList, s.extract 20 (s.size - 4), true) else (0, 0, 0, 0, ⟨#[]⟩, false)) := by
  unfold downpourref11_Get.f
  by_cases h24 : s.size < 24
  · rw [if_pos (by omega), if_neg (fun z => absurd z.1 (by omega))]
  · have hw : wrap64 ((s.size : Int) - 4) = ((s.size - 4 : Nat) : Int) := by unfold wrap64; omega
    have w18 : wrap64 (bt s 18) = bt s 18 := by have := bt_bd s 18; unfold wrap64; omega
    have w19 : wrap64 (bt s 19) = bt s 19 := by have := bt_bd s 19; unfold wrap64; omega
    have n1 := num_bd (s.extract 2 10).data.toList (by rw [data_length, ByteArray.size_extract]; omega)
    have n2 := num_bd (s.extract 10 18).data.toList (by rw [data_length, ByteArray.size_extract]; omega)
    rw [hw, w18, w19]
    clear hw w18 w19
    rw [if_neg (by omega), if_pos (by decide), if_pos (by omega), refNum_f (s.extract 2 10) (by rw [ByteArray.size_extract]; omega) r (by omega), Option.bind_some, if_pos (by omega), if_pos (by omega), if_pos (by decide), if_pos (by omega),
      refNum_f (s.extract 10 18) (by rw [ByteArray.size_extract]; omega) r (by omega), Option.bind_some, if_pos (by omega), if_pos (by omega), Int.toNat_natCast, refRight_f, Option.bind_some]
    by_cases ok : okD (bt s 18) (bt s 19) (s.extract 20 (s.size - 4))
    · rw [if_pos (decide_eq_true ok), refPut_f _ _ _ _ _ ok n1 n2 r hr, Option.bind_some]
      by_cases q : sealOf (headOf (nfold 0 (s.extract 2 10).data.toList) (bt s 18) (bt s 19) (nfold 0 (s.extract 10 18).data.toList) (s.extract 20 (s.size - 4))) = s
      · rw [if_pos (toList_inj.mpr q), if_pos ⟨by omega, ok, q⟩]
      · rw [if_neg (fun z => q (toList_inj.mp z)), if_neg (fun z => q z.2.2)]
    · rw [if_neg (by simpa using ok), if_neg (fun z => ok z.2.1)]

theorem DatagramGets : downpourlaw11_DatagramGets.Pure := by
  intro a0 _
  obtain ⟨s, hs, hn⟩ := cut11 a0
  refine ⟨1001, ?_⟩
  unfold downpourlaw11_DatagramGets.f
  rw [hs, Option.bind_some, Get_f s (by omega), Option.bind_some, refGet_f s hn 1001 (by decide), Option.bind_some, alive11 1001 (by decide), Option.bind_some, if_pos rfl, getOf_is]
  split
  · rw [if_pos (by simp), if_pos rfl, if_pos rfl]
  · rw [if_pos (by simp [noneD]), if_neg (by simp)]
    rfl

end Go.Proofs.Ytfbngnplpoepjaa.Pure

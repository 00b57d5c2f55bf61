/-
  What datagram.Get tells of bytes, in plain words: the datagram whose bytes these are.
-/
import Derived.Test.YtfbngnplpoepjaaGet1
namespace Go.Proofs.Ytfbngnplpoepjaa.Pure
open Go.RowKit Go.Proofs.Ytfbngnplpoepjaa.Own Go.Proofs.Ytfbngnplpoepjaa.P Go.Proofs.YtfbngnplpoepjaaW.PrintWords Go.Proofs.YtfbngnplpoepjaaW.PrintLast

/-- A number out of bytes, the highest first. -/
def nval : Nat → List UInt8 → Nat
  | x, [] => x
  | x, b :: l => nval (x * 256 + b.toNat) l
theorem nval_one (x : Nat) (l : List UInt8) (b : UInt8) : nval x (l ++ [b]) = nval x l * 256 + b.toNat := by
  induction l generalizing x with
  | nil => rfl
  | cons c l ih => exact ih _
theorem nval_lt (x : Nat) (l : List UInt8) : nval x l < (x + 1) * 256 ^ l.length := by
  induction l generalizing x with
  | nil => simp [nval]
  | cons b l ih =>
    have h1 := ih (x * 256 + b.toNat)
    have h2 := b.toNat_lt
    have h3 : (x * 256 + b.toNat + 1) * 256 ^ l.length ≤ (x + 1) * 256 * 256 ^ l.length := Nat.mul_le_mul_right _ (by omega)
    rw [nval, List.length_cons, Nat.pow_succ, Nat.mul_comm (256 ^ l.length) 256, ← Nat.mul_assoc]
    omega
theorem nfold_nval (x : Nat) (l : List UInt8) (h : (x + 1) * 256 ^ l.length ≤ 18446744073709551616) : nfold x l = (nval x l : Nat) := by
  induction l generalizing x with
  | nil => rfl
  | cons b l ih =>
    have h2 := b.toNat_lt
    rw [List.length_cons, Nat.pow_succ, Nat.mul_comm (256 ^ l.length) 256, ← Nat.mul_assoc] at h
    have h3 : 1 ≤ 256 ^ l.length := Nat.pow_pos (by decide)
    have h4 : (x + 1) * 256 * 1 ≤ (x + 1) * 256 * 256 ^ l.length := Nat.mul_le_mul_left _ h3
    have h5 : (x * 256 + b.toNat + 1) * 256 ^ l.length ≤ (x + 1) * 256 * 256 ^ l.length := Nat.mul_le_mul_right _ (by omega)
    rw [nfold, nval, ← ih _ (by omega)]
    congr 1
    rw [show ((x : Int) * 256 % 18446744073709551616) = ((x * 256 : Nat) : Int) by omega, u64_or_nat _ _ (by omega) (by omega)]
    congr 1
    exact nat_join 8 (x * 256) b.toNat (by omega) (by omega)
theorem beI_nval (r : List UInt8) : beI r.length ((nval 0 r.reverse : Nat) : Int) = r.reverse.map fun b => (b.toNat : Int) := by
  induction r with
  | nil => rfl
  | cons b r ih =>
    have h2 := b.toNat_lt
    rw [List.reverse_cons, nval_one, List.length_cons, beI, List.map_append]
    rw [show (((nval 0 r.reverse * 256 + b.toNat : Nat) : Int) / 256) = ((nval 0 r.reverse : Nat) : Int) by omega, ih,
      show (((nval 0 r.reverse * 256 + b.toNat : Nat) : Int) % 256) = (b.toNat : Int) by omega]
    rfl
theorem beI_of (l : List UInt8) (h : l.length ≤ 8) : beI l.length (nfold 0 l) = l.map fun b => (b.toNat : Int) := by
  have h8 : 256 ^ l.length ≤ 256 ^ 8 := Nat.pow_le_pow_right (by decide) h
  have e := nfold_nval 0 l (by have : (256 : Nat) ^ 8 = 18446744073709551616 := by decide
                               omega)
  rw [show ((0 : Nat) : Int) = 0 from rfl] at e
  rw [e]
  have := beI_nval l.reverse
  simpa using this
theorem nums_of (l : List UInt8) : strOfNums (l.map fun b => (b.toNat : Int)) = ⟨l.toArray⟩ := by
  unfold strOfNums
  congr 1
  simp [List.map_map, Function.comp_def]
theorem bytes_ext {a b : ByteArray} (h : a.data.toList = b.data.toList) : a = b := by
  apply ByteArray.ext
  exact Array.toList_inj.mp h
/-- The text told anew: its mark aside, it is what it was. -/
theorem head_getT (t : ByteArray) (ht : 20 ≤ t.size) : headOf (getT t).1 (getT t).2.1 (getT t).2.2.1 (getT t).2.2.2.1 (getT t).2.2.2.2 = strOfNums [68, 1] ++ t.extract 2 t.size := by
  have hl : 20 ≤ t.data.toList.length := by rw [data_length]; exact ht
  have ex : ∀ (s : ByteArray) (a b : Nat), (s.extract a b).data.toList = (s.data.toList.take b).drop a := extract_list
  have end_ : ∀ (s : ByteArray) (a : Nat), (s.extract a s.size).data.toList = s.data.toList.drop a := fun s a => by
    rw [ex, List.take_of_length_le (by rw [data_length]; omega)]
  unfold getT headOf
  simp only
  generalize hr1 : t.extract 2 t.size = r1
  generalize hr2 : r1.extract 8 r1.size = r2
  generalize hr3 : r2.extract 8 r2.size = r3
  generalize hr4 : r3.extract 1 r3.size = r4
  generalize hr5 : r4.extract 1 r4.size = r5
  have z1 : r1.size = t.size - 2 := by rw [← hr1, ByteArray.size_extract]; omega
  have z2 : r2.size = t.size - 10 := by rw [← hr2, ByteArray.size_extract]; omega
  have z3 : r3.size = t.size - 18 := by rw [← hr3, ByteArray.size_extract]; omega
  have z4 : r4.size = t.size - 19 := by rw [← hr4, ByteArray.size_extract]; omega
  have l1 : (r1.extract 0 8).data.toList.length = 8 := by rw [data_length, ByteArray.size_extract]; omega
  have l2 : (r2.extract 0 8).data.toList.length = 8 := by rw [data_length, ByteArray.size_extract]; omega
  obtain ⟨kb, hkb⟩ := list_one (l := (r3.extract 0 1).data.toList) (by rw [data_length, ByteArray.size_extract]; omega)
  obtain ⟨mb, hmb⟩ := list_one (l := (r4.extract 0 1).data.toList) (by rw [data_length, ByteArray.size_extract]; omega)
  have e1 := beI_of (r1.extract 0 8).data.toList (by omega)
  have e2 := beI_of (r2.extract 0 8).data.toList (by omega)
  rw [l1] at e1
  rw [l2] at e2
  have hk := kb.toNat_lt
  have hm := mb.toNat_lt
  rw [e1, e2, nums_of, nums_of, hkb, hmb, nfold_one, nfold_one, show ((kb.toNat : Int) % 256) = (kb.toNat : Int) by omega, show ((mb.toNat : Int) % 256) = (mb.toNat : Int) by omega]
  have h34 : strOfNums [(kb.toNat : Int), (mb.toNat : Int)] = ⟨[kb, mb].toArray⟩ := nums_of [kb, mb]
  rw [h34]
  rw [ByteArray.append_assoc, ByteArray.append_assoc, ByteArray.append_assoc]
  congr 1
  apply bytes_ext
  simp only [ByteArray.data_append, Array.toList_append]
  have s1 : r1.data.toList = (r1.extract 0 8).data.toList ++ r2.data.toList := by rw [← hr2, end_, ex, List.drop_zero, List.take_append_drop]
  have s2 : r2.data.toList = (r2.extract 0 8).data.toList ++ r3.data.toList := by rw [← hr3, end_, ex, List.drop_zero, List.take_append_drop]
  have s3 : r3.data.toList = [kb] ++ r4.data.toList := by rw [← hkb, ← hr4, end_, ex, List.drop_zero, List.take_append_drop]
  have s4 : r4.data.toList = [mb] ++ r5.data.toList := by rw [← hmb, ← hr5, end_, ex, List.drop_zero, List.take_append_drop]
  rw [s1, s2, s3, s4]
  simp
theorem getT_head (t : ByteArray) (ht : 20 ≤ t.size) (hm : t.extract 0 2 = ⟨#[68, 1]⟩) : headOf (getT t).1 (getT t).2.1 (getT t).2.2.1 (getT t).2.2.2.1 (getT t).2.2.2.2 = t := by
  rw [head_getT t ht]
  apply bytes_ext
  rw [ByteArray.data_append, Array.toList_append, extract_list, List.take_of_length_le (by rw [data_length]; omega)]
  have : (strOfNums [68, 1]).data.toList = t.data.toList.take 2 := by
    have h := congrArg (fun x : ByteArray => x.data.toList) hm
    simp only at h
    rw [extract_list, List.drop_zero] at h
    rw [h]
    rfl
  rw [this, List.take_append_drop]
end Go.Proofs.Ytfbngnplpoepjaa.Pure

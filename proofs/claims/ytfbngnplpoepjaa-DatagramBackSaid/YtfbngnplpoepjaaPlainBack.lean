/-
  What is put is got as it was; cut below 24 bytes, or with one bit changed, it is none; what is got, put, is those bytes: in plain words.
-/
import Derived.Test.YtfbngnplpoepjaaPureDatagramGets
import Derived.Test.YtfbngnplpoepjaaBursts
namespace Go.Proofs.Ytfbngnplpoepjaa.Pure
open Go.RowKit Go.Proofs.Ytfbngnplpoepjaa.Own Go.Proofs.Ytfbngnplpoepjaa.P Go.Proofs.YtfbngnplpoepjaaW.PrintWords Go.Proofs.YtfbngnplpoepjaaW.PrintLast

theorem nval_beI (i : Nat) : ∀ n : Nat, nval 0 ((beI i (n : Int)).map fun x => UInt8.ofNat x.toNat) = n % 256 ^ i := by
  induction i with
  | zero => intro n; simp [beI, nval, Nat.mod_one]
  | succ i ih =>
    intro n
    rw [beI, List.map_append, List.map_cons, List.map_nil, nval_one, show ((n : Int) / 256) = ((n / 256 : Nat) : Int) by omega, ih, show ((n : Int) % 256).toNat = n % 256 by omega, UInt8.toNat_ofNat']
    have hp : 256 ^ (i + 1) = 256 * 256 ^ i := by rw [Nat.pow_succ, Nat.mul_comm]
    rw [hp, Nat.mod_mul]
    omega
theorem nfold_beI (n : Int) (h0 : 0 ≤ n) (h1 : n ≤ 18446744073709551615) : nfold 0 (strOfNums (beI 8 n)).data.toList = n := by
  obtain ⟨k, rfl⟩ := Int.eq_ofNat_of_zero_le h0
  have e := nfold_nval 0 ((beI 8 (k : Int)).map fun x => UInt8.ofNat x.toNat) (by rw [List.length_map, beI_length]; decide)
  rw [show ((0 : Nat) : Int) = 0 from rfl, nval_beI] at e
  show nfold 0 ((beI 8 (k : Int)).map fun x => UInt8.ofNat x.toNat) = _
  rw [e]
  have : (256 : Nat) ^ 8 = 18446744073709551616 := by decide
  rw [this]
  omega
theorem getOf_put (a k m b : Int) (s : ByteArray) (ok : okD k m s) (ha : 0 ≤ a ∧ a ≤ 18446744073709551615) (hb : 0 ≤ b ∧ b ≤ 18446744073709551615) : getOf (sealOf (headOf a k m b s)) = (a, k, m, b, s, 0) := by
  obtain ⟨k1, k2, m1, m2, hs⟩ := ok
  have hz : (sealOf (headOf a k m b s)).size = 24 + s.size := by rw [sealOf_size, headOf_size]; omega
  have hX : (sealOf (headOf a k m b s)).data.toList = [68, 1] ++ ((strOfNums (beI 8 a)).data.toList ++ ((strOfNums (beI 8 b)).data.toList ++ (UInt8.ofNat k.toNat :: UInt8.ofNat m.toNat :: (s.data.toList ++ four (sumOf 0 (headOf a k m b s).data.toList))))) := by
    rw [sealOf_list]
    unfold headOf
    simp only [ByteArray.data_append, Array.toList_append, List.append_assoc]
    congr 1
    congr 1
    congr 1
    have : (strOfNums [k % 256, m % 256]).data.toList = [UInt8.ofNat k.toNat, UInt8.ofNat m.toNat] := by
      show [UInt8.ofNat (k % 256).toNat, UInt8.ofNat (m % 256).toNat] = _
      rw [show (k % 256).toNat = k.toNat by omega, show (m % 256).toNat = m.toNat by omega]
    rw [this]
    rfl
  have lA : (strOfNums (beI 8 a)).data.toList.length = 8 := by rw [data_length, nums_size, beI_length]
  have lB : (strOfNums (beI 8 b)).data.toList.length = 8 := by rw [data_length, nums_size, beI_length]
  have lS : s.data.toList.length = s.size := data_length s
  have eA : nfold 0 ((sealOf (headOf a k m b s)).extract 2 10).data.toList = a := by
    rw [extract_list, hX]
    simp [List.take_append, List.drop_append, lA]
    exact nfold_beI a ha.1 ha.2
  have eB : nfold 0 ((sealOf (headOf a k m b s)).extract 10 18).data.toList = b := by
    rw [extract_list, hX]
    simp [List.take_append, List.drop_append, lA, lB]
    exact nfold_beI b hb.1 hb.2
  have eK : bt (sealOf (headOf a k m b s)) 18 = k := by
    have := bt_list (sealOf (headOf a k m b s)) 18 (by omega)
    rw [show ((18 : Nat) : Int) = 18 from rfl] at this
    rw [this, hX]
    simp [List.getD_eq_getElem?_getD, List.getElem?_append, lA, lB]
    omega
  have eM : bt (sealOf (headOf a k m b s)) 19 = m := by
    have := bt_list (sealOf (headOf a k m b s)) 19 (by omega)
    rw [show ((19 : Nat) : Int) = 19 from rfl] at this
    rw [this, hX]
    simp [List.getD_eq_getElem?_getD, List.getElem?_append, lA, lB]
    omega
  have eS : (sealOf (headOf a k m b s)).extract 20 ((sealOf (headOf a k m b s)).size - 4) = s := by
    apply bytes_ext
    have hP : ([68, 1] ++ ((strOfNums (beI 8 a)).data.toList ++ ((strOfNums (beI 8 b)).data.toList ++ [UInt8.ofNat k.toNat, UInt8.ofNat m.toNat]))).length = 20 := by simp [lA, lB]
    rw [extract_list, hz, show 24 + s.size - 4 = 20 + s.size by omega, List.drop_take, Nat.add_sub_cancel_left, hX]
    have e : ([68, 1] ++ ((strOfNums (beI 8 a)).data.toList ++ ((strOfNums (beI 8 b)).data.toList ++ (UInt8.ofNat k.toNat :: UInt8.ofNat m.toNat :: (s.data.toList ++ four (sumOf 0 (headOf a k m b s).data.toList)))))) = ([68, 1] ++ ((strOfNums (beI 8 a)).data.toList ++ ((strOfNums (beI 8 b)).data.toList ++ [UInt8.ofNat k.toNat, UInt8.ofNat m.toNat]))) ++ (s.data.toList ++ four (sumOf 0 (headOf a k m b s).data.toList)) := by simp
    rw [e, List.drop_left' hP, List.take_left' lS]
  rw [getOf_is, eA, eB, eK, eM, eS, if_pos ⟨by omega, ⟨k1, k2, m1, m2, hs⟩, rfl⟩]
theorem getOf_short (s : ByteArray) (h : s.size < 24) : getOf s = noneD := by
  rw [getOf_is, if_neg (fun z => absurd z.1 (by omega))]
theorem turned_one (p n : Nat) (h : p < 8 * n) : turned p 1 n 32 = 2 ^ p := by
  unfold turned
  rw [show 1 % 2 ^ 32 = 1 from rfl, Nat.mul_one]
  exact Nat.mod_eq_of_lt (Nat.pow_lt_pow_right (by decide) h)
/-- One bit changed: it is none. -/
theorem getOf_turned (h : ByteArray) (p : Nat) (hp : p < 8 * (h.size + 4)) (v : UInt8) (hv : v = (sealOf h).data.toList.getD (p / 8) 0 ^^^ UInt8.ofNat (2 ^ (p % 8))) :
    getOf ⟨((sealOf h).data.toList.set (p / 8) v).toArray⟩ = noneD := by
  have hl : ((sealOf h).data.toList.set (p / 8) v).length = h.size + 4 := by rw [List.length_set, data_length, sealOf_size]
  have hlt : p / 8 < (sealOf h).data.toList.length := by rw [data_length, sealOf_size]; omega
  have hq : p % 8 < 8 := Nat.mod_lt _ (by decide)
  have h2q : 2 ^ (p % 8) < 256 := Nat.lt_of_lt_of_le (Nat.pow_lt_pow_right (by decide) hq) (by decide)
  have he : le ((sealOf h).data.toList.set (p / 8) v) = le (sealOf h).data.toList ^^^ turned p 1 (h.size + 4) 32 := by
    rw [turned_one p _ hp, le_set _ _ hlt, hv, UInt8.toNat_xor, ← Nat.xor_assoc, Nat.xor_self, Nat.zero_xor, UInt8.toNat_ofNat', Nat.mod_eq_of_lt (by exact h2q), ← Nat.pow_add]
    congr 2
    omega
  have := burst_fails h _ p 1 hp rfl hl he
  unfold getOf
  rw [this, if_neg (fun z => absurd z.1 (by decide))]
/-- What is got, put, is those bytes. -/
theorem put_got (s : ByteArray) (h : (getOf s).2.2.2.2.2 = 0) : okD (getOf s).2.1 (getOf s).2.2.1 (getOf s).2.2.2.2.1 ∧ sealOf (headOf (getOf s).1 (getOf s).2.1 (getOf s).2.2.1 (getOf s).2.2.2.1 (getOf s).2.2.2.2.1) = s := by
  rw [getOf_is] at h ⊢
  split at h
  · rename_i hc
    rw [if_pos hc]
    exact hc.2
  · exact absurd h (by decide)
theorem not_got (s : ByteArray) (h : (getOf s).2.2.2.2.2 ≠ 0) : getOf s = noneD := by
  rw [getOf_is] at h ⊢
  split
  · rename_i hc
    rw [if_pos hc] at h
    exact absurd rfl h
  · rfl
end Go.Proofs.Ytfbngnplpoepjaa.Pure

/-
  CrcBursts, walked by hand: a sum of two texts is that of the first one behind the second one's bytes; what is sealed is opened as it was, and is not with some bits changed, that lie within 32 in a row. For every input.
-/
import Derived.Test.YtfbngnplpoepjaaPureCrcOpens
import Derived.Test.YtfbngnplpoepjaaPx1
import Derived.Test.YtfbngnplpoepjaaPx3
import Derived.Test.YtfbngnplpoepjaaPx4
namespace Go.Proofs.Ytfbngnplpoepjaa.Pure
open Go.RowKit Go.Proofs.Ytfbngnplpoepjaa.Own Go.Proofs.Ytfbngnplpoepjaa.P Go.Proofs.YtfbngnplpoepjaaW.PrintWords Go.Proofs.YtfbngnplpoepjaaW.PrintLast Go.Proofs.YtfbngnplpoepjaaW.PrintMore

theorem open_sealed (s : ByteArray) : openOf (sealOf s) = (s, 0) := by
  have e : (sealOf s).extract 0 ((sealOf s).size - 4) = s := by
    rw [sealOf_size]
    apply toList_inj.mp
    rw [ByteArray.toList_eq, ByteArray.toList_eq, extract_list, sealOf_list, Nat.add_sub_cancel, List.drop_zero, ← data_length, List.take_left]
  unfold openOf
  rw [e, if_pos ⟨by rw [sealOf_size]; omega, rfl⟩]

/-- n bytes in block g, none of them marked. -/
def BytesAt (W : World) (g n : Nat) (l : List UInt8) : Prop := l.length = n ∧ ∀ j, j < n → W.cell? ⟨g, j, none⟩ = some (.int .u8 (l.getD j 0).toNat) ∧ W.frozen? ⟨g, j, none⟩ = false
theorem BytesAt.made (w : World) (s : ByteArray) : BytesAt (Lib.bytesWorld w 5 s) w.heap.size s.size s.data.toList := by
  refine ⟨data_length s, fun j hj => ⟨Lib.bytesWorld_cell w 5 s j hj, ?_⟩⟩
  have hc : s.size ≤ (Lib.bytesCells w 5 s).size := by
    unfold Lib.bytesCells
    rw [Array.size_append, Array.size_map]
    exact Nat.le_add_right _ _
  simp [World.frozen?, Lib.bytesWorld_at_new]
  omega
theorem BytesAt.put {W : World} {g n : Nat} {l : List UInt8} (h : BytesAt W g n l) (j : Nat) (hj : j < n) (v : UInt8) : BytesAt (W.setCell ⟨g, j, none⟩ (.int .u8 v.toNat)).drew g n (l.set j v) := by
  refine ⟨by rw [List.length_set]; exact h.1, fun i hi => ⟨?_, ?_⟩⟩
  · show (W.setCell ⟨g, j, none⟩ (.int .u8 v.toNat)).cell? ⟨g, i, none⟩ = _
    by_cases e : j = i
    · subst e
      rw [World.cell?_setCell_same _ _ _ (h.2 j hj).1]
      simp [List.getD_eq_getElem?_getD, h.1, hj]
    · rw [World.cell?_setCell_other _ _ _ _ (fun z => e (by injection z)), (h.2 i hi).1]
      simp [List.getD_eq_getElem?_getD, List.getElem?_set_ne e]
  · show (W.setCell ⟨g, j, none⟩ (.int .u8 v.toNat)).frozen? ⟨g, i, none⟩ = _
    rw [World.frozen?_setCell]
    exact (h.2 i hi).2
theorem BytesAt.reads {W : World} {g n : Nat} {l : List UInt8} (h : BytesAt W g n l) (hn : n ≤ 9223372036854775807) : ReadsInt W .u8 (some ⟨g, 0, none⟩) n (l.map fun b => (b.toNat : Int)) := by
  refine ⟨by rw [List.length_map, h.1], hn, fun _ => ⟨_, rfl, fun j hj => ?_⟩⟩
  rw [add_plain, (h.2 j hj).1]
  simp [List.getD_eq_getElem?_getD, List.getElem?_eq_getElem (l := l) (i := j) (by rw [h.1]; exact hj)]
/-- The bits that are turned ahead of round i, of n bytes. -/
def turned (p b n i : Nat) : Nat := 2 ^ p * (b % 2 ^ i) % 2 ^ (8 * n)

theorem mul_xor (i a c : Nat) : 2 ^ i * (a ^^^ c) = 2 ^ i * a ^^^ 2 ^ i * c := by
  have := Nat.shiftLeft_xor_distrib (a := a) (b := c) (i := i)
  simpa [Nat.shiftLeft_eq, Nat.mul_comm] using this
theorem le_set (l : List UInt8) (j : Nat) (hj : j < l.length) (v : UInt8) : le (l.set j v) = le l ^^^ 2 ^ (8 * j) * ((l.getD j 0).toNat ^^^ v.toNat) := by
  induction l generalizing j with
  | nil => simp at hj
  | cons b l ih =>
    cases j with
    | zero =>
      simp only [List.set_cons_zero, List.getD_cons_zero, le_cons, Nat.mul_zero, Nat.pow_zero, Nat.one_mul]
      rw [Nat.xor_comm (b.toNat) (2 ^ 8 * le l), Nat.xor_assoc, ← Nat.xor_assoc b.toNat b.toNat, Nat.xor_self, Nat.zero_xor, Nat.xor_comm]
    | succ j =>
      simp only [List.set_cons_succ, List.getD_cons_succ, le_cons]
      rw [ih j (by simpa using hj), mul_xor, ← Nat.xor_assoc, show 8 * (j + 1) = 8 + 8 * j by omega, Nat.pow_add, Nat.mul_assoc]
theorem turned_bit (p b n i k : Nat) : (turned p b n i).testBit k = (decide (k < 8 * n) && (decide (p ≤ k) && (decide (k - p < i) && b.testBit (k - p)))) := by
  unfold turned
  rw [Nat.testBit_mod_two_pow, Nat.testBit_two_pow_mul, Nat.testBit_mod_two_pow]
theorem turned_hit (p b n i : Nat) (hb : b / 2 ^ i % 2 = 1) (hk : p + i < 8 * n) : turned p b n (i + 1) = turned p b n i ^^^ 2 ^ (p + i) := by
  apply Nat.eq_of_testBit_eq
  intro k
  have hb' : b.testBit i = true := by rw [Nat.testBit_eq_decide_div_mod_eq]; simpa using hb
  rw [Nat.testBit_xor, turned_bit, turned_bit, Nat.testBit_two_pow]
  by_cases e : p + i = k
  · subst e
    simp [hk, hb', Nat.add_sub_cancel_left]
  · by_cases h1 : p ≤ k
    · have h2 : decide (k - p < i + 1) = decide (k - p < i) := by
        rw [decide_eq_decide]; omega
      simp [e, h2]
    · simp [e, h1]
theorem turned_miss (p b n i : Nat) (h : b / 2 ^ i % 2 ≠ 1 ∨ 8 * n ≤ p + i) : turned p b n (i + 1) = turned p b n i := by
  apply Nat.eq_of_testBit_eq
  intro k
  rw [turned_bit, turned_bit]
  by_cases e : p + i = k
  · subst e
    rcases h with h | h
    · have hb' : b.testBit i = false := by rw [Nat.testBit_eq_decide_div_mod_eq]; simpa using h
      simp [hb', Nat.add_sub_cancel_left]
    · have : ¬ p + i < 8 * n := by omega
      simp [this]
  · by_cases h1 : p ≤ k
    · have h2 : decide (k - p < i + 1) = decide (k - p < i) := by
        rw [decide_eq_decide]; omega
      simp [h2]
    · simp [h1]
theorem flip32 (x : Nat) (h : x < 2 ^ 32) : 4294967295 ^^^ x = 4294967295 - x := by
  have e := flip_nat x h
  rw [show (4294967295 : Int) = ((4294967295 : Nat) : Int) from rfl, u32_xor_nat _ _ (by decide) (by omega)] at e
  omega
theorem le_four (c : Nat) (h : c < 2 ^ 32) : le (four c) = c := by
  unfold four
  simp only [le, UInt8.toNat_ofNat']
  omega
theorem reg_seal (l : List UInt8) : reg 4294967295 (l ++ four (sumOf 0 l)) = its 32 4294967295 := by
  have hx : reg 4294967295 l < 2 ^ 32 := reg_lt (by decide) l
  rw [reg_append, reg_le, le_four _ (sumOf_lt _ _)]
  unfold sumOf
  rw [← flip32 _ hx, Nat.xor_comm 4294967295, ← Nat.xor_assoc, Nat.xor_self, Nat.zero_xor]
  rfl
theorem burst_fails (s : ByteArray) (l : List UInt8) (p b : Nat) (hp : p < 8 * (s.size + 4)) (hb : b % 2 = 1) (hl : l.length = s.size + 4)
    (h : le l = le (sealOf s).data.toList ^^^ turned p b (s.size + 4) 32) : openOf ⟨l.toArray⟩ = (⟨#[]⟩, 5) := by
  unfold openOf
  rw [if_neg]
  rintro ⟨_, h2⟩
  generalize (⟨l.toArray⟩ : ByteArray).extract 0 ((⟨l.toArray⟩ : ByteArray).size - 4) = t at h2
  have e1 : l = t.data.toList ++ four (sumOf 0 t.data.toList) := by rw [← sealOf_list, h2]
  have r1 := reg_seal t.data.toList
  rw [← e1, reg_le] at r1
  have r2 := reg_seal s.data.toList
  rw [← sealOf_list, reg_le, data_length, sealOf_size] at r2
  rw [hl, h, ← Nat.xor_assoc, its_xor, r2] at r1
  have r3 : its (8 * (s.size + 4)) (turned p b (s.size + 4) 32) = 0 := by
    have : its 32 4294967295 ^^^ (its 32 4294967295 ^^^ its (8 * (s.size + 4)) (turned p b (s.size + 4) 32)) = its 32 4294967295 ^^^ its 32 4294967295 := by rw [r1]
    rwa [← Nat.xor_assoc, Nat.xor_self, Nat.zero_xor] at this
  obtain ⟨d, hd, hd1⟩ : ∃ d, 8 * (s.size + 4) = p + d ∧ 1 ≤ d := ⟨8 * (s.size + 4) - p, by omega, by omega⟩
  unfold turned at r3
  rw [hd, Nat.pow_add, Nat.mul_mod_mul_left, its_add, its_pow] at r3
  have hlt : b % 2 ^ 32 % 2 ^ d < 2 ^ 32 := Nat.lt_of_le_of_lt (Nat.mod_le _ _) (Nat.mod_lt _ (by decide))
  have z := its_zero d hlt r3
  obtain ⟨c, rfl⟩ : ∃ c, d = c + 1 := ⟨d - 1, by omega⟩
  have : b % 2 ^ 32 % 2 ^ (c + 1) % 2 = b % 2 ^ 32 % 2 := Nat.mod_mod_of_dvd _ ⟨2 ^ c, by rw [Nat.pow_succ, Nat.mul_comm]⟩
  omega

set_option maxHeartbeats 2000000 in
theorem bursts_walk (a0 a1 : ByteArray) (a2 a3 : Int) (w : World) (_ : a0.size ≤ 140737488351232) (_ : a1.size ≤ 140737488351232) (_ : (Lit.int .i64 a2).wf = true) (h3 : (Lit.int .u32 a3).wf = true) :
    Calls Try.prog 6 #[.string a0, .string a1, .int .i64 a2, .int .u32 a3] w fun e w' => e = .returned (.bool true) ∧ Below w.heap.size w w' := by
  obtain ⟨s, hs, hsn⟩ := cut10 a0
  obtain ⟨t, ht, htn⟩ := cut10 a1
  have hB := Below.refl w.heap.size w
  have HS := Aside0.mk hs
  have HT := Aside0.mk ht
  have HB := Aside0.mk hB
  clear hs ht hB
  have c15 := fun w => crc_Seal.calls s (sealOf s) w (Seal_f s (by omega))
  have c17 := fun w => crc_Open.calls (sealOf s) s 0 w (by rw [Open_f _ (by rw [sealOf_size]; omega), open_sealed])
  have hcat : (s ++ t).size ≤ 9223372036854775806 := by rw [ByteArray.size_append]; omega
  have happ : (s ++ t).data.toList = s.data.toList ++ t.data.toList := by simp
  obtain ⟨X, hX⟩ : ∃ X, sumOf 0 (s ++ t).data.toList = X := ⟨_, rfl⟩
  obtain ⟨Y, hY⟩ : ∃ Y, sumOf 0 s.data.toList = Y := ⟨_, rfl⟩
  have hXY : sumOf Y t.data.toList = X := by rw [← hX, ← hY, happ, sumOf_append]
  have hYl : Y < 2 ^ 32 := by rw [← hY]; exact sumOf_lt _ _
  have s1 : Aside0 (crc_Sum.f (s ++ t) = some (X : Int)) := ⟨by rw [Sum_f _ hcat, hX]⟩
  have s2 : Aside0 (crc_Sum.f s = some (Y : Int)) := ⟨by rw [Sum_f _ (by omega), hY]⟩
  have s3 : Aside0 (crc_More.f Y t = some (X : Int)) := ⟨by rw [more_f Y hYl t (by omega), hXY]⟩
  clear hXY hYl hX hY happ hcat
  have hsz := sealOf_size s
  obtain ⟨p, hp, hpn⟩ : ∃ p : Nat, (wrap64 (a2.tmod (8 * ((s.size : Int) + 4)) + 8 * ((s.size : Int) + 4))).tmod (8 * ((s.size : Int) + 4)) = (p : Int) ∧ p < 8 * (s.size + 4) := by
    have b1 := tmod_bd a2 (8 * ((s.size : Int) + 4)) (by omega)
    generalize a2.tmod (8 * ((s.size : Int) + 4)) = u at b1 ⊢
    have e1 : wrap64 (u + 8 * ((s.size : Int) + 4)) = u + 8 * ((s.size : Int) + 4) := by unfold wrap64; omega
    rw [e1]; clear e1
    have b2 := tmod_pos (u + 8 * ((s.size : Int) + 4)) (8 * ((s.size : Int) + 4)) (by omega) (by omega)
    generalize (u + 8 * ((s.size : Int) + 4)).tmod (8 * ((s.size : Int) + 4)) = v at b2 ⊢
    exact ⟨v.toNat, by omega, by omega⟩
  obtain ⟨b, hb, hbn, hbo⟩ : ∃ b : Nat, bits .or .u32 a3 1 = (b : Int) ∧ b < 2 ^ 32 ∧ b % 2 = 1 := by
    obtain ⟨c, rfl, hc⟩ := u32_nat h3
    refine ⟨c ||| 1, u32_or_nat c 1 (by omega) (by decide), Nat.or_lt_two_pow hc (by decide), ?_⟩
    rw [← Nat.and_one_is_mod, Nat.and_or_distrib_right]
    have : c &&& 1 = 0 ∨ c &&& 1 = 1 := by rw [Nat.and_one_is_mod]; omega
    rcases this with e | e <;> rw [e] <;> rfl
  have kb := fun W => print_bytes (P := Try.prog) 9 33 5 Try.underlying9 Try.underlying33 Try.underlying5 (sealOf s) W
  have HBO := Aside0.mk hbo
  have HBN := Aside0.mk hbn
  clear hbo hbn
  go_enter Try.func6, Try.ntmps6
  go_wp2_with fail
  refine (downpourlaw10_cut.calls a0 s _ HS.out).mono ?_
  rintro e w1 ⟨rfl, hb⟩
  have HB1 := Aside0.mk (below_step HB.out hb)
  clear hb HB
  go_wp2_with fail
  refine (downpourlaw10_cut.calls a1 t _ HT.out).mono ?_
  rintro e w2 ⟨rfl, hb⟩
  have HB2 := Aside0.mk (below_step HB1.out hb)
  clear hb HB1
  go_wp2_with fail
  refine (c15 _).mono ?_
  rintro e w3 ⟨rfl, hb⟩
  have HB3 := Aside0.mk (below_step HB2.out hb)
  clear hb HB2
  go_wp2_with fail
  refine (c17 _).mono ?_
  rintro e w4 ⟨rfl, hb⟩
  have HB4 := Aside0.mk (below_step HB3.out hb)
  clear hb HB3
  go_wp2_with fail
  refine (crc_Sum.calls (s ++ t) X _ s1.out).mono ?_
  rintro e w5 ⟨rfl, hb⟩
  have HB5 := Aside0.mk (below_step HB4.out hb)
  clear hb HB4
  go_wp2_with fail
  refine (crc_Sum.calls s Y _ s2.out).mono ?_
  rintro e w6 ⟨rfl, hb⟩
  have HB6 := Aside0.mk (below_step HB5.out hb)
  clear hb HB5
  go_wp2_with fail
  refine (crc_More.calls Y t X _ s3.out).mono ?_
  rintro e w7 ⟨rfl, hb⟩
  have HB7 := Aside0.mk (below_step HB6.out hb)
  clear hb HB6
  go_wp2_with fail
  refine (downpourlaw10_alive.calls true _ alive10).mono ?_
  rintro e w8 ⟨rfl, hb⟩
  have HB8 := Aside0.mk (below_step HB7.out hb)
  clear hb HB7
  go_wp2_with fail
  clear hp hb kb c15 c17
  have HE : Aside0 (Below w.heap.size w (Lib.bytesWorld w8 5 (sealOf s))) := ⟨bytes_below HB8.out HB8.out.size _ _⟩
  have HL := HB8.out.size
  have HR := BytesAt.made w8 (sealOf s)
  rw [hsz] at HR
  have HR := Aside0.mk HR
  generalize Lib.bytesWorld w8 5 (sealOf s) = W at HR HE ⊢
  generalize grownCap w8 (s.size + 4) 0 5 = cap
  generalize w8.heap.size = g at HR HL ⊢
  go_loopg [75] 32 (fun n v75 w' => ∃ (i : Nat) (l : List UInt8), i + n = 32 ∧ v75 = .int .i64 i ∧ Aside0 (le l = le (sealOf s).data.toList ^^^ turned p b (s.size + 4) i) ∧ Aside0 (BytesAt w' g (s.size + 4) l) ∧ Aside0 (Below w.heap.size w w'))
  case atStart => exact ⟨0, _, by omega, rfl, ⟨by simp [turned, Nat.mod_one]⟩, HR, HE⟩
  case round =>
    clear HR HE HB8
    obtain ⟨i, l, hi, rfl, HA, HR, HE⟩ := hrel
    by_cases hlt : i < 32
    · obtain ⟨e, he⟩ : ∃ e, b / 2 ^ i % 2 = e := ⟨_, rfl⟩
      have ha : bits .and .u32 ((b : Int) / 2 ^ i) 1 = (e : Int) := by
        rw [show ((b : Int) / 2 ^ i) = ((b / 2 ^ i : Nat) : Int) by simp, show (1 : Int) = ((1 : Nat) : Int) from rfl, u32_and_nat _ _ (Nat.lt_of_le_of_lt (Nat.div_le_self _ _) (by have := HBN.out; omega)) (by decide), Nat.and_one_is_mod, he]
      by_cases hit : e = 1 ∧ p + i < 8 * (s.size + 4)
      · obtain ⟨rfl, hk⟩ := hit
        obtain ⟨j, e8⟩ : ∃ j : Nat, (p + i) / 8 = j := ⟨_, rfl⟩
        obtain ⟨q, e7⟩ : ∃ q : Nat, (p + i) % 8 = q := ⟨_, rfl⟩
        have e8' : ((p : Int) + i) / 8 = (j : Int) := by omega
        have e7' : ((p : Int) + i) % 8 = (q : Int) := by omega
        have hj : j < s.size + 4 := by omega
        have hc := (HR.out.2 j hj).1
        have hf := (HR.out.2 j hj).2
        have hq : q < 8 := by omega
        have h2q : 2 ^ q < 256 := Nat.lt_of_lt_of_le (Nat.pow_lt_pow_right (by decide) hq) (by decide)
        obtain ⟨v, hv⟩ : ∃ v, l[j]?.getD 0 ^^^ UInt8.ofNat (2 ^ q) = v := ⟨_, rfl⟩
        have hx : bits .xor .u8 ((l[j]?.getD 0).toNat : Int) (2 ^ q % 256) = (v.toNat : Int) := by
          have h3 : ((2 : Int) ^ q % 256) = ((2 ^ q : Nat) : Int) := by
            have h4 : ((2 : Int) ^ q) = ((2 ^ q : Nat) : Int) := by simp
            rw [h4]
            generalize 2 ^ q = z at h2q ⊢
            omega
          rw [h3, u8_xor_nat _ _ (UInt8.toNat_lt _) h2q, ← hv, UInt8.toNat_xor, UInt8.toNat_ofNat', Nat.mod_eq_of_lt (by exact h2q)]
        have HN : Aside0 (le (l.set j (v)) = le (sealOf s).data.toList ^^^ turned p b (s.size + 4) (i + 1)) := ⟨by
          rw [le_set l j (by rw [HR.out.1]; exact hj), HA.out, turned_hit _ _ _ _ he hk, ← Nat.xor_assoc, List.getD_eq_getElem?_getD, ← hv, UInt8.toNat_xor, ← Nat.xor_assoc, Nat.xor_self, Nat.zero_xor, UInt8.toNat_ofNat', Nat.mod_eq_of_lt (by exact h2q), ← Nat.pow_add]
          congr 2
          omega⟩
        have HW := Aside0.mk (HR.out.put j hj (v))
        have HV : Aside0 (Below w.heap.size w (wr.setCell ⟨g, j, none⟩ (.int .u8 (v).toNat)).drew) := ⟨below_drew1 (below_set HE.out HL)⟩
        clear hv hq h2q
        clear HA HR HE e8 e7 he
        go_wp2
        go_region
        go_wp2
        go_roundg (31 - i)
        case measure => omega
        case rel => exact ⟨i + 1, _, by omega, by go_num, HN, HW, HV⟩
      · have HN : Aside0 (le l = le (sealOf s).data.toList ^^^ turned p b (s.size + 4) (i + 1)) := ⟨by
          rw [HA.out, turned_miss _ _ _ _ (by omega)]⟩
        clear HA
        have h01 : e = 0 ∨ e = 1 := by omega
        rcases h01 with rfl | rfl
        · clear hit he
          go_wp2
          go_roundg (31 - i)
          case measure => omega
          case rel => exact ⟨i + 1, _, by omega, by go_num, HN, HR, HE⟩
        · have hk : 8 * (s.size + 4) ≤ p + i := by omega
          clear hit he
          go_wp2
          go_roundg (31 - i)
          case measure => omega
          case rel => exact ⟨i + 1, _, by omega, by go_num, HN, HR, HE⟩
    · obtain rfl : i = 32 := by omega
      have ks := string_of_reads (P := Try.prog) (dst := 9) (c := cap) Try.underlying33 Try.underlying5 Try.underlying9 (HR.out.reads (by omega))
      have hf := burst_fails s l p b hpn HBO.out HR.out.1 HA.out
      have hn : strOfNums (l.map fun b => (b.toNat : Int)) = ⟨l.toArray⟩ := by
        unfold strOfNums
        congr 1
        simp [List.map_map, Function.comp_def]
      rw [hn] at ks
      have hsz2 : (⟨l.toArray⟩ : ByteArray).size = s.size + 4 := by rw [← data_length]; exact HR.out.1
      have ho : Aside0 (crc_Open.f ⟨l.toArray⟩ = some (⟨#[]⟩, 5)) := ⟨by rw [Open_f _ (by omega), hf]⟩
      clear hf hn hsz2 HA
      go_wp2_with fail
      refine (crc_Open.calls _ ⟨#[]⟩ 5 _ ho.out).mono ?_
      rintro e w9 ⟨rfl, hb⟩
      have HB9 := Aside0.mk (below_step HE.out hb)
      clear hb HE
      go_wp2
      go_ret
      exact ⟨rfl, HB9.out⟩

end Go.Proofs.Ytfbngnplpoepjaa.Pure

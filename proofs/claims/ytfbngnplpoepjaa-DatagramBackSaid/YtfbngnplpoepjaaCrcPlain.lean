/-
  The plain law of CRC-32C: one step of the register as a linear function of a number without a bound; texts as numbers, the lowest byte first; a burst within 32 bits changes the register.
-/
import Derived.Test.YtfbngnplpoepjaaCrcMore
import Derived.Laws.BitsAllLaws
namespace Go.Proofs.Ytfbngnplpoepjaa.Own
open Go.RowKit Go.Proofs.YtfbngnplpoepjaaW.PrintWords Go.Proofs.YtfbngnplpoepjaaW.PrintLast Go.Proofs.YtfbngnplpoepjaaW.PrintMore

def stp (n : Nat) : Nat := n / 2 ^^^ (n % 2 * 2197175160)
def its : Nat → Nat → Nat
  | 0, x => x
  | k + 1, x => its k (stp x)

theorem xor_div2 (a b : Nat) : (a ^^^ b) / 2 = a / 2 ^^^ b / 2 := by
  have := Nat.shiftRight_xor_distrib (a := a) (b := b) (i := 1)
  simpa [Nat.shiftRight_eq_div_pow] using this
theorem xor_mod2 (a b : Nat) : (a ^^^ b) % 2 = a % 2 ^^^ b % 2 := by
  have := Nat.xor_mod_two_pow (a := a) (b := b) (n := 1)
  simpa using this
theorem mul_bit_xor (a b p : Nat) (ha : a < 2) (hb : b < 2) : (a ^^^ b) * p = a * p ^^^ b * p := by
  have h1 : a = 0 ∨ a = 1 := by omega
  have h2 : b = 0 ∨ b = 1 := by omega
  rcases h1 with rfl | rfl <;> rcases h2 with rfl | rfl <;> simp
theorem stp_xor (a b : Nat) : stp (a ^^^ b) = stp a ^^^ stp b := by
  unfold stp
  rw [xor_div2, xor_mod2, mul_bit_xor _ _ _ (Nat.mod_lt _ (by decide)) (Nat.mod_lt _ (by decide))]
  ac_rfl
theorem stp_two (z : Nat) : stp (2 * z) = z := by simp [stp]
theorem its_xor (k a b : Nat) : its k (a ^^^ b) = its k a ^^^ its k b := by
  induction k generalizing a b with
  | zero => rfl
  | succ k ih => simp only [its]; rw [stp_xor, ih]
theorem its_pow (k z : Nat) : its k (2 ^ k * z) = z := by
  induction k with
  | zero => simp [its]
  | succ k ih => simp only [its]; rw [Nat.pow_succ, Nat.mul_comm (2 ^ k) 2, Nat.mul_assoc, stp_two, ih]
theorem its_add (j k x : Nat) : its (j + k) x = its k (its j x) := by
  induction j generalizing x with
  | zero => simp [its]
  | succ j ih => rw [Nat.succ_add]; simp only [its]; rw [ih]
theorem stp_lt {n : Nat} (h : n < 2 ^ 32) : stp n < 2 ^ 32 := by
  unfold stp
  refine Nat.xor_lt_two_pow (by omega) ?_
  have : n % 2 = 0 ∨ n % 2 = 1 := by omega
  rcases this with e | e <;> rw [e] <;> decide
theorem its_lt (k : Nat) {n : Nat} (h : n < 2 ^ 32) : its k n < 2 ^ 32 := by
  induction k generalizing n with
  | zero => exact h
  | succ k ih => exact ih (stp_lt h)
theorem xor_eq_zero {a b : Nat} (h : a ^^^ b = 0) : a = b := by
  have : (a ^^^ b) ^^^ b = 0 ^^^ b := by rw [h]
  simpa [Nat.xor_assoc] using this
theorem stp_zero {n : Nat} (h : n < 2 ^ 32) (e : stp n = 0) : n = 0 := by
  unfold stp at e
  have e' := xor_eq_zero e
  have : n % 2 = 0 ∨ n % 2 = 1 := by omega
  rcases this with p | p <;> rw [p] at e' <;> omega
theorem its_zero (k : Nat) {n : Nat} (h : n < 2 ^ 32) (e : its k n = 0) : n = 0 := by
  induction k generalizing n with
  | zero => exact e
  | succ k ih => exact stp_zero h (ih (stp_lt h) e)

/-- The register behind bytes. -/
def reg : Nat → List UInt8 → Nat
  | x, [] => x
  | x, b :: l => reg (its 8 (x ^^^ b.toNat)) l
/-- Bytes as a number, the lowest first. -/
def le : List UInt8 → Nat
  | [] => 0
  | b :: l => b.toNat + 256 * le l
theorem xor_disj (i a b : Nat) (h : b < 2 ^ i) : 2 ^ i * a ^^^ b = 2 ^ i * a + b := by
  apply Nat.eq_of_testBit_eq
  intro j
  rw [Nat.testBit_xor, Nat.testBit_two_pow_mul_add _ h, Nat.testBit_two_pow_mul]
  by_cases hj : j < i
  · have : ¬ i ≤ j := by omega
    simp [hj, this]
  · have h2 : i ≤ j := by omega
    have h3 : b.testBit j = false := Nat.testBit_lt_two_pow (Nat.lt_of_lt_of_le h (Nat.pow_le_pow_right (by decide) h2))
    simp [hj, h2, h3]
theorem le_cons (b : UInt8) (l : List UInt8) : le (b :: l) = b.toNat ^^^ 2 ^ 8 * le l := by
  have h : b.toNat < 2 ^ 8 := b.toNat_lt
  rw [le, Nat.xor_comm, xor_disj _ _ _ h]
  omega
theorem reg_le (x : Nat) (l : List UInt8) : reg x l = its (8 * l.length) (x ^^^ le l) := by
  induction l generalizing x with
  | nil => simp [reg, its, le]
  | cons b l ih =>
    rw [reg, ih, List.length_cons, show 8 * (l.length + 1) = 8 + 8 * l.length by omega, its_add, le_cons, ← Nat.xor_assoc, its_xor 8 (x ^^^ b.toNat), its_pow]
theorem reg_append (x : Nat) (l m : List UInt8) : reg x (l ++ m) = reg (reg x l) m := by
  induction l generalizing x with
  | nil => rfl
  | cons b l ih => exact ih _
theorem reg_lt {x : Nat} (h : x < 2 ^ 32) (l : List UInt8) : reg x l < 2 ^ 32 := by
  induction l generalizing x with
  | nil => exact h
  | cons b l ih => exact ih (its_lt 8 (Nat.xor_lt_two_pow h (Nat.lt_of_lt_of_le b.toNat_lt (by decide))))

/-! the program's register is this one -/
theorem tits_its (k i : Nat) (h : i < 2 ^ 32) : tits k (i : Int) = (its k i : Nat) := by
  induction k generalizing i with
  | zero => rfl
  | succ k ih =>
    have hc : ∀ j n, its (j + 1) n = stp (its j n) := fun j n => by rw [its_add]; rfl
    rw [tits, ih i h, hc]
    generalize its k i = m, its_lt k h = hm
    have e1 := u32_and_nat m 1 (by omega) (by decide)
    unfold tstep stp
    rw [show ((1 : Nat) : Int) = 1 from rfl] at e1
    rw [e1, Nat.and_one_is_mod]
    have hp : 2197175160 * ((m % 2 : Nat) : Int) % 4294967296 = ((m % 2 * 2197175160 : Nat) : Int) := by omega
    rw [hp, show ((m : Int) / 2) = ((m / 2 : Nat) : Int) by omega]
    exact u32_xor_nat _ _ (by omega) (by omega)
theorem thalf_its (i : Nat) (h : i < 2 ^ 32) : thalf (i : Int) = (its 4 i : Nat) := by
  have e1 := u32_and_nat i 15 (by omega) (by decide)
  rw [show ((15 : Nat) : Int) = 15 from rfl, show (15 : Nat) = 2 ^ 4 - 1 from rfl, Nat.and_two_pow_sub_one_eq_mod] at e1
  unfold thalf
  rw [e1, tits_its 4 (i % 2 ^ 4) (by omega), show ((i : Int) / 16) = ((i / 16 : Nat) : Int) by omega,
    u32_xor_nat _ _ (by omega) (by have := its_lt 4 (n := i % 2 ^ 4) (by omega); omega)]
  have hs : i = 2 ^ 4 * (i / 16) ^^^ i % 2 ^ 4 := by rw [xor_disj _ _ _ (Nat.mod_lt _ (by decide))]; omega
  conv => rhs; rw [hs, its_xor, its_pow]
theorem mbyte_its (i : Nat) (h : i < 2 ^ 32) (b : UInt8) : mbyte (i : Int) (b.toNat : Int) = (its 8 (i ^^^ b.toNat) : Nat) := by
  have hb : b.toNat < 2 ^ 32 := Nat.lt_of_lt_of_le b.toNat_lt (by decide)
  unfold mbyte
  rw [u32_xor_nat _ _ (by omega) (by omega), thalf_its _ (Nat.xor_lt_two_pow h hb), thalf_its _ (its_lt 4 (Nat.xor_lt_two_pow h hb)), ← its_add]
theorem mfold_reg (x : Nat) (h : x < 2 ^ 32) (l : List UInt8) : mfold (x : Int) l = (reg x l : Nat) := by
  induction l generalizing x with
  | nil => rfl
  | cons b l ih =>
    rw [mfold, reg, mbyte_its x h b, ih _ (its_lt 8 (Nat.xor_lt_two_pow h (Nat.lt_of_lt_of_le b.toNat_lt (by decide))))]
theorem flip_nat (x : Nat) (h : x < 2 ^ 32) : Go.bits .xor .u32 4294967295 (x : Int) = ((4294967295 - x : Nat) : Int) := by
  rw [show (4294967295 : Int) = ((4294967295 : Nat) : Int) from rfl, u32_xor_nat _ _ (by decide) (by omega)]
  congr 1
  have e := xor_disj 32 0 x h
  have : 4294967295 - x < 2 ^ 32 := by omega
  apply Nat.eq_of_testBit_eq
  intro j
  rw [Nat.testBit_xor, show (4294967295 : Nat) = 2 ^ 32 - 1 from rfl, show 2 ^ 32 - 1 - x = 2 ^ 32 - (x + 1) by omega, Nat.testBit_two_pow_sub_succ h, Nat.testBit_two_pow_sub_one]
  by_cases hj : j < 32
  · simp [hj]
  · have h3 : x.testBit j = false := Nat.testBit_lt_two_pow (Nat.lt_of_lt_of_le h (Nat.pow_le_pow_right (by decide) (by omega)))
    simp [hj, h3]
/-- What crc.More tells, of a sum and a text. -/
def sumOf (c : Nat) (l : List UInt8) : Nat := 4294967295 - reg (4294967295 - c) l
theorem sumOf_lt (c : Nat) (l : List UInt8) : sumOf c l < 2 ^ 32 := by unfold sumOf; omega
theorem more_f (c : Nat) (h : c < 2 ^ 32) (s : ByteArray) (hs : s.size ≤ 9223372036854775807) : crc_More.f (c : Int) s = some ((sumOf c s.data.toList : Nat) : Int) := by
  unfold crc_More.f sumOf
  rw [if_pos hs, flip_nat c h, mfold_reg _ (by omega), flip_nat _ (reg_lt (by omega) _)]
theorem sumOf_append (c : Nat) (l m : List UInt8) : sumOf c (l ++ m) = sumOf (sumOf c l) m := by
  unfold sumOf
  rw [reg_append]
  have h : reg (4294967295 - c) l < 2 ^ 32 := reg_lt (by omega) l
  congr 2
  omega
theorem sumOf_nil (c : Nat) (h : c < 2 ^ 32) : sumOf c [] = c := by unfold sumOf; simp only [reg]; omega
theorem sum_alive : sumOf 0 [49, 50, 51, 52, 53, 54, 55, 56, 57] = 3808858755 := by decide +kernel
end Go.Proofs.Ytfbngnplpoepjaa.Own

/- Functions and their contracts, printed by stubprint.py (a program of this repo, which runs the kit's print with some functions proved by hand): each call answers what the plain function tells. -/
import Derived.Test.YtfbngnplpoepjaaPx0
import Derived.Test.YtfbngnplpoepjaaPx1
namespace Go.Proofs.Ytfbngnplpoepjaa.P
open Go.Proofs.Ytfbngnplpoepjaa.Own
open Go.RowKit Go.Proofs.YtfbngnplpoepjaaW.PrintWords Go.Proofs.YtfbngnplpoepjaaW.PrintLast Go.Proofs.YtfbngnplpoepjaaW.PrintMore
attribute [local go_sem] max2_int min2_int max_two min_two max_three min_three max_four min_four   -- for this text's walks alone
set_option linter.unusedVariables false
set_option linter.unusedSimpArgs false

/-! ### downpourlaw10_CrcParts: function 3 -/
def downpourlaw10_CrcParts.f (a0 : Int) (a1 : ByteArray) (a2 : Int) (a3 : Int) : Option (Bool) := (downpourlaw10_cut.f a1).bind fun t103 => (if (wrap64 ((t103.size : Int) + 1)) = 0 then (none) else (if (wrap64 ((wrap64 ((t103.size : Int) - (Int.tmod (wrap64 ((wrap64 ((Int.tmod a2 (wrap64 ((t103.size : Int) + 1))) + (t103.size : Int))) + 1)) (wrap64 ((t103.size : Int) + 1))))) + 1)) = 0 then (none) else (if 0 ≤ (Int.tmod (wrap64 ((wrap64 ((Int.tmod a2 (wrap64 ((t103.size : Int) + 1))) + (t103.size : Int))) + 1)) (wrap64 ((t103.size : Int) + 1))) then (if (Int.tmod (wrap64 ((wrap64 ((Int.tmod a2 (wrap64 ((t103.size : Int) + 1))) + (t103.size : Int))) + 1)) (wrap64 ((t103.size : Int) + 1))) ≤ (t103.size : Int) then ((crc_More.f a0 (t103.extract 0 ((Int.tmod (wrap64 ((wrap64 ((Int.tmod a2 (wrap64 ((t103.size : Int) + 1))) + (t103.size : Int))) + 1)) (wrap64 ((t103.size : Int) + 1))) : Int).toNat)).bind fun t104 => (if (Int.tmod (wrap64 ((wrap64 ((Int.tmod a2 (wrap64 ((t103.size : Int) + 1))) + (t103.size : Int))) + 1)) (wrap64 ((t103.size : Int) + 1))) ≤ (wrap64 ((Int.tmod (wrap64 ((wrap64 ((Int.tmod a2 (wrap64 ((t103.size : Int) + 1))) + (t103.size : Int))) + 1)) (wrap64 ((t103.size : Int) + 1))) + (Int.tmod (wrap64 ((wrap64 ((wrap64 ((Int.tmod a3 (wrap64 ((wrap64 ((t103.size : Int) - (Int.tmod (wrap64 ((wrap64 ((Int.tmod a2 (wrap64 ((t103.size : Int) + 1))) + (t103.size : Int))) + 1)) (wrap64 ((t103.size : Int) + 1))))) + 1))) + (t103.size : Int))) - (Int.tmod (wrap64 ((wrap64 ((Int.tmod a2 (wrap64 ((t103.size : Int) + 1))) + (t103.size : Int))) + 1)) (wrap64 ((t103.size : Int) + 1))))) + 1)) (wrap64 ((wrap64 ((t103.size : Int) - (Int.tmod (wrap64 ((wrap64 ((Int.tmod a2 (wrap64 ((t103.size : Int) + 1))) + (t103.size : Int))) + 1)) (wrap64 ((t103.size : Int) + 1))))) + 1))))) then (if (wrap64 ((Int.tmod (wrap64 ((wrap64 ((Int.tmod a2 (wrap64 ((t103.size : Int) + 1))) + (t103.size : Int))) + 1)) (wrap64 ((t103.size : Int) + 1))) + (Int.tmod (wrap64 ((wrap64 ((wrap64 ((Int.tmod a3 (wrap64 ((wrap64 ((t103.size : Int) - (Int.tmod (wrap64 ((wrap64 ((Int.tmod a2 (wrap64 ((t103.size : Int) + 1))) + (t103.size : Int))) + 1)) (wrap64 ((t103.size : Int) + 1))))) + 1))) + (t103.size : Int))) - (Int.tmod (wrap64 ((wrap64 ((Int.tmod a2 (wrap64 ((t103.size : Int) + 1))) + (t103.size : Int))) + 1)) (wrap64 ((t103.size : Int) + 1))))) + 1)) (wrap64 ((wrap64 ((t103.size : Int) - (Int.tmod (wrap64 ((wrap64 ((Int.tmod a2 (wrap64 ((t103.size : Int) + 1))) + (t103.size : Int))) + 1)) (wrap64 ((t103.size : Int) + 1))))) + 1))))) ≤ (t103.size : Int) then ((crc_More.f t104 (t103.extract ((Int.tmod (wrap64 ((wrap64 ((Int.tmod a2 (wrap64 ((t103.size : Int) + 1))) + (t103.size : Int))) + 1)) (wrap64 ((t103.size : Int) + 1))) : Int).toNat ((wrap64 ((Int.tmod (wrap64 ((wrap64 ((Int.tmod a2 (wrap64 ((t103.size : Int) + 1))) + (t103.size : Int))) + 1)) (wrap64 ((t103.size : Int) + 1))) + (Int.tmod (wrap64 ((wrap64 ((wrap64 ((Int.tmod a3 (wrap64 ((wrap64 ((t103.size : Int) - (Int.tmod (wrap64 ((wrap64 ((Int.tmod a2 (wrap64 ((t103.size : Int) + 1))) + (t103.size : Int))) + 1)) (wrap64 ((t103.size : Int) + 1))))) + 1))) + (t103.size : Int))) - (Int.tmod (wrap64 ((wrap64 ((Int.tmod a2 (wrap64 ((t103.size : Int) + 1))) + (t103.size : Int))) + 1)) (wrap64 ((t103.size : Int) + 1))))) + 1)) (wrap64 ((wrap64 ((t103.size : Int) - (Int.tmod (wrap64 ((wrap64 ((Int.tmod a2 (wrap64 ((t103.size : Int) + 1))) + (t103.size : Int))) + 1)) (wrap64 ((t103.size : Int) + 1))))) + 1))))) : Int).toNat)).bind fun t105 => (if 0 ≤ (wrap64 ((Int.tmod (wrap64 ((wrap64 ((Int.tmod a2 (wrap64 ((t103.size : Int) + 1))) + (t103.size : Int))) + 1)) (wrap64 ((t103.size : Int) + 1))) + (Int.tmod (wrap64 ((wrap64 ((wrap64 ((Int.tmod a3 (wrap64 ((wrap64 ((t103.size : Int) - (Int.tmod (wrap64 ((wrap64 ((Int.tmod a2 (wrap64 ((t103.size : Int) + 1))) + (t103.size : Int))) + 1)) (wrap64 ((t103.size : Int) + 1))))) + 1))) + (t103.size : Int))) - (Int.tmod (wrap64 ((wrap64 ((Int.tmod a2 (wrap64 ((t103.size : Int) + 1))) + (t103.size : Int))) + 1)) (wrap64 ((t103.size : Int) + 1))))) + 1)) (wrap64 ((wrap64 ((t103.size : Int) - (Int.tmod (wrap64 ((wrap64 ((Int.tmod a2 (wrap64 ((t103.size : Int) + 1))) + (t103.size : Int))) + 1)) (wrap64 ((t103.size : Int) + 1))))) + 1))))) then ((crc_More.f t105 (t103.extract ((wrap64 ((Int.tmod (wrap64 ((wrap64 ((Int.tmod a2 (wrap64 ((t103.size : Int) + 1))) + (t103.size : Int))) + 1)) (wrap64 ((t103.size : Int) + 1))) + (Int.tmod (wrap64 ((wrap64 ((wrap64 ((Int.tmod a3 (wrap64 ((wrap64 ((t103.size : Int) - (Int.tmod (wrap64 ((wrap64 ((Int.tmod a2 (wrap64 ((t103.size : Int) + 1))) + (t103.size : Int))) + 1)) (wrap64 ((t103.size : Int) + 1))))) + 1))) + (t103.size : Int))) - (Int.tmod (wrap64 ((wrap64 ((Int.tmod a2 (wrap64 ((t103.size : Int) + 1))) + (t103.size : Int))) + 1)) (wrap64 ((t103.size : Int) + 1))))) + 1)) (wrap64 ((wrap64 ((t103.size : Int) - (Int.tmod (wrap64 ((wrap64 ((Int.tmod a2 (wrap64 ((t103.size : Int) + 1))) + (t103.size : Int))) + 1)) (wrap64 ((t103.size : Int) + 1))))) + 1))))) : Int).toNat t103.size)).bind fun t106 => ((downpourlaw10_alive.f).bind fun t107 => (if t107 = true then ((crc_More.f a0 t103).bind fun t108 => (if t106 = t108 then ((crc_More.f a0 (⟨#[]⟩ : ByteArray)).bind fun t109 => (if t109 = a0 then ((crc_Sum.f t103).bind fun t110 => ((crc_More.f 0 t103).bind fun t111 => (some (t110 == t111)))) else (some false))) else (some false))) else (some false)))) else (none))) else (none)) else (none))) else (none)) else (none))))
def downpourlaw10_CrcParts.T4 : Bool × List (List Nat × List Nat) := (true, [([], []), ([], []), ([], []), ([1, 2], [1, 2]), ([0, 3], [0, 3]), ([], []), ([], []), ([], []), ([], []), ([7, 8], [7, 8]), ([5, 6, 9], [5, 6, 9]), ([4, 10, 4], [4, 10]), ([], []), ([], []), ([], []), ([13, 14], [13, 14]), ([12, 15], [12, 15]), ([11, 16, 11], [11, 16]), ([17, 17, 0, 1, 2, 3, 4, 5, 6, 7, 8, 9, 10, 11, 12, 13, 14, 15, 16, 17], [17])])
def downpourlaw10_CrcParts.B4 : List Nat := [0, 0, 0, 6, 15, 0, 0, 0, 0, 384, 992, 2047, 0, 0, 0, 24576, 61440, 131071, 262143]
theorem downpourlaw10_CrcParts.tab4 : rtab .any (opsOf Try.f3 4) = downpourlaw10_CrcParts.T4 := by kernel_rfl
theorem downpourlaw10_CrcParts.bits4 : waitsOk downpourlaw10_CrcParts.T4.2 downpourlaw10_CrcParts.B4 = true := by kernel_rfl
set_option maxHeartbeats 8000000 in
set_option maxRecDepth 100000 in
theorem downpourlaw10_CrcParts.calls (a0 : Int) (a1 : ByteArray) (a2 : Int) (a3 : Int) (r : Bool) (w : World) (h : downpourlaw10_CrcParts.f a0 a1 a2 a3 = some r) :
    Calls Try.prog 3 #[.int .u32 a0, .string a1, .int .i64 a2, .int .i64 a3] w fun e w' => e = .returned (.bool r) ∧ Below w.heap.size w w' := by
  have HB := Aside0.mk (Below.refl w.heap.size w)
  have H : ((downpourlaw10_cut.f a1).bind fun t103 => (if (wrap64 ((t103.size : Int) + 1)) = 0 then (none) else (if (wrap64 ((wrap64 ((t103.size : Int) - (Int.tmod (wrap64 ((wrap64 ((Int.tmod a2 (wrap64 ((t103.size : Int) + 1))) + (t103.size : Int))) + 1)) (wrap64 ((t103.size : Int) + 1))))) + 1)) = 0 then (none) else (if 0 ≤ (Int.tmod (wrap64 ((wrap64 ((Int.tmod a2 (wrap64 ((t103.size : Int) + 1))) + (t103.size : Int))) + 1)) (wrap64 ((t103.size : Int) + 1))) then (if (Int.tmod (wrap64 ((wrap64 ((Int.tmod a2 (wrap64 ((t103.size : Int) + 1))) + (t103.size : Int))) + 1)) (wrap64 ((t103.size : Int) + 1))) ≤ (t103.size : Int) then ((crc_More.f a0 (t103.extract 0 ((Int.tmod (wrap64 ((wrap64 ((Int.tmod a2 (wrap64 ((t103.size : Int) + 1))) + (t103.size : Int))) + 1)) (wrap64 ((t103.size : Int) + 1))) : Int).toNat)).bind fun t104 => (if (Int.tmod (wrap64 ((wrap64 ((Int.tmod a2 (wrap64 ((t103.size : Int) + 1))) + (t103.size : Int))) + 1)) (wrap64 ((t103.size : Int) + 1))) ≤ (wrap64 ((Int.tmod (wrap64 ((wrap64 ((Int.tmod a2 (wrap64 ((t103.size : Int) + 1))) + (t103.size : Int))) + 1)) (wrap64 ((t103.size : Int) + 1))) + (Int.tmod (wrap64 ((wrap64 ((wrap64 ((Int.tmod a3 (wrap64 ((wrap64 ((t103.size : Int) - (Int.tmod (wrap64 ((wrap64 ((Int.tmod a2 (wrap64 ((t103.size : Int) + 1))) + (t103.size : Int))) + 1)) (wrap64 ((t103.size : Int) + 1))))) + 1))) + (t103.size : Int))) - (Int.tmod (wrap64 ((wrap64 ((Int.tmod a2 (wrap64 ((t103.size : Int) + 1))) + (t103.size : Int))) + 1)) (wrap64 ((t103.size : Int) + 1))))) + 1)) (wrap64 ((wrap64 ((t103.size : Int) - (Int.tmod (wrap64 ((wrap64 ((Int.tmod a2 (wrap64 ((t103.size : Int) + 1))) + (t103.size : Int))) + 1)) (wrap64 ((t103.size : Int) + 1))))) + 1))))) then (if (wrap64 ((Int.tmod (wrap64 ((wrap64 ((Int.tmod a2 (wrap64 ((t103.size : Int) + 1))) + (t103.size : Int))) + 1)) (wrap64 ((t103.size : Int) + 1))) + (Int.tmod (wrap64 ((wrap64 ((wrap64 ((Int.tmod a3 (wrap64 ((wrap64 ((t103.size : Int) - (Int.tmod (wrap64 ((wrap64 ((Int.tmod a2 (wrap64 ((t103.size : Int) + 1))) + (t103.size : Int))) + 1)) (wrap64 ((t103.size : Int) + 1))))) + 1))) + (t103.size : Int))) - (Int.tmod (wrap64 ((wrap64 ((Int.tmod a2 (wrap64 ((t103.size : Int) + 1))) + (t103.size : Int))) + 1)) (wrap64 ((t103.size : Int) + 1))))) + 1)) (wrap64 ((wrap64 ((t103.size : Int) - (Int.tmod (wrap64 ((wrap64 ((Int.tmod a2 (wrap64 ((t103.size : Int) + 1))) + (t103.size : Int))) + 1)) (wrap64 ((t103.size : Int) + 1))))) + 1))))) ≤ (t103.size : Int) then ((crc_More.f t104 (t103.extract ((Int.tmod (wrap64 ((wrap64 ((Int.tmod a2 (wrap64 ((t103.size : Int) + 1))) + (t103.size : Int))) + 1)) (wrap64 ((t103.size : Int) + 1))) : Int).toNat ((wrap64 ((Int.tmod (wrap64 ((wrap64 ((Int.tmod a2 (wrap64 ((t103.size : Int) + 1))) + (t103.size : Int))) + 1)) (wrap64 ((t103.size : Int) + 1))) + (Int.tmod (wrap64 ((wrap64 ((wrap64 ((Int.tmod a3 (wrap64 ((wrap64 ((t103.size : Int) - (Int.tmod (wrap64 ((wrap64 ((Int.tmod a2 (wrap64 ((t103.size : Int) + 1))) + (t103.size : Int))) + 1)) (wrap64 ((t103.size : Int) + 1))))) + 1))) + (t103.size : Int))) - (Int.tmod (wrap64 ((wrap64 ((Int.tmod a2 (wrap64 ((t103.size : Int) + 1))) + (t103.size : Int))) + 1)) (wrap64 ((t103.size : Int) + 1))))) + 1)) (wrap64 ((wrap64 ((t103.size : Int) - (Int.tmod (wrap64 ((wrap64 ((Int.tmod a2 (wrap64 ((t103.size : Int) + 1))) + (t103.size : Int))) + 1)) (wrap64 ((t103.size : Int) + 1))))) + 1))))) : Int).toNat)).bind fun t105 => (if 0 ≤ (wrap64 ((Int.tmod (wrap64 ((wrap64 ((Int.tmod a2 (wrap64 ((t103.size : Int) + 1))) + (t103.size : Int))) + 1)) (wrap64 ((t103.size : Int) + 1))) + (Int.tmod (wrap64 ((wrap64 ((wrap64 ((Int.tmod a3 (wrap64 ((wrap64 ((t103.size : Int) - (Int.tmod (wrap64 ((wrap64 ((Int.tmod a2 (wrap64 ((t103.size : Int) + 1))) + (t103.size : Int))) + 1)) (wrap64 ((t103.size : Int) + 1))))) + 1))) + (t103.size : Int))) - (Int.tmod (wrap64 ((wrap64 ((Int.tmod a2 (wrap64 ((t103.size : Int) + 1))) + (t103.size : Int))) + 1)) (wrap64 ((t103.size : Int) + 1))))) + 1)) (wrap64 ((wrap64 ((t103.size : Int) - (Int.tmod (wrap64 ((wrap64 ((Int.tmod a2 (wrap64 ((t103.size : Int) + 1))) + (t103.size : Int))) + 1)) (wrap64 ((t103.size : Int) + 1))))) + 1))))) then ((crc_More.f t105 (t103.extract ((wrap64 ((Int.tmod (wrap64 ((wrap64 ((Int.tmod a2 (wrap64 ((t103.size : Int) + 1))) + (t103.size : Int))) + 1)) (wrap64 ((t103.size : Int) + 1))) + (Int.tmod (wrap64 ((wrap64 ((wrap64 ((Int.tmod a3 (wrap64 ((wrap64 ((t103.size : Int) - (Int.tmod (wrap64 ((wrap64 ((Int.tmod a2 (wrap64 ((t103.size : Int) + 1))) + (t103.size : Int))) + 1)) (wrap64 ((t103.size : Int) + 1))))) + 1))) + (t103.size : Int))) - (Int.tmod (wrap64 ((wrap64 ((Int.tmod a2 (wrap64 ((t103.size : Int) + 1))) + (t103.size : Int))) + 1)) (wrap64 ((t103.size : Int) + 1))))) + 1)) (wrap64 ((wrap64 ((t103.size : Int) - (Int.tmod (wrap64 ((wrap64 ((Int.tmod a2 (wrap64 ((t103.size : Int) + 1))) + (t103.size : Int))) + 1)) (wrap64 ((t103.size : Int) + 1))))) + 1))))) : Int).toNat t103.size)).bind fun t106 => ((downpourlaw10_alive.f).bind fun t107 => (if t107 = true then ((crc_More.f a0 t103).bind fun t108 => (if t106 = t108 then ((crc_More.f a0 (⟨#[]⟩ : ByteArray)).bind fun t109 => (if t109 = a0 then ((crc_Sum.f t103).bind fun t110 => ((crc_More.f 0 t103).bind fun t111 => (some (t110 == t111)))) else (some false))) else (some false))) else (some false)))) else (none))) else (none)) else (none))) else (none)) else (none))))) = some r := h
  clear h
  replace H := Option.bind_eq_some_iff.mp H
  obtain ⟨t103, A50, H⟩ := H
  replace H : (if (wrap64 ((t103.size : Int) + 1)) = 0 then (none) else (if (wrap64 ((wrap64 ((t103.size : Int) - (Int.tmod (wrap64 ((wrap64 ((Int.tmod a2 (wrap64 ((t103.size : Int) + 1))) + (t103.size : Int))) + 1)) (wrap64 ((t103.size : Int) + 1))))) + 1)) = 0 then (none) else (if 0 ≤ (Int.tmod (wrap64 ((wrap64 ((Int.tmod a2 (wrap64 ((t103.size : Int) + 1))) + (t103.size : Int))) + 1)) (wrap64 ((t103.size : Int) + 1))) then (if (Int.tmod (wrap64 ((wrap64 ((Int.tmod a2 (wrap64 ((t103.size : Int) + 1))) + (t103.size : Int))) + 1)) (wrap64 ((t103.size : Int) + 1))) ≤ (t103.size : Int) then ((crc_More.f a0 (t103.extract 0 ((Int.tmod (wrap64 ((wrap64 ((Int.tmod a2 (wrap64 ((t103.size : Int) + 1))) + (t103.size : Int))) + 1)) (wrap64 ((t103.size : Int) + 1))) : Int).toNat)).bind fun t104 => (if (Int.tmod (wrap64 ((wrap64 ((Int.tmod a2 (wrap64 ((t103.size : Int) + 1))) + (t103.size : Int))) + 1)) (wrap64 ((t103.size : Int) + 1))) ≤ (wrap64 ((Int.tmod (wrap64 ((wrap64 ((Int.tmod a2 (wrap64 ((t103.size : Int) + 1))) + (t103.size : Int))) + 1)) (wrap64 ((t103.size : Int) + 1))) + (Int.tmod (wrap64 ((wrap64 ((wrap64 ((Int.tmod a3 (wrap64 ((wrap64 ((t103.size : Int) - (Int.tmod (wrap64 ((wrap64 ((Int.tmod a2 (wrap64 ((t103.size : Int) + 1))) + (t103.size : Int))) + 1)) (wrap64 ((t103.size : Int) + 1))))) + 1))) + (t103.size : Int))) - (Int.tmod (wrap64 ((wrap64 ((Int.tmod a2 (wrap64 ((t103.size : Int) + 1))) + (t103.size : Int))) + 1)) (wrap64 ((t103.size : Int) + 1))))) + 1)) (wrap64 ((wrap64 ((t103.size : Int) - (Int.tmod (wrap64 ((wrap64 ((Int.tmod a2 (wrap64 ((t103.size : Int) + 1))) + (t103.size : Int))) + 1)) (wrap64 ((t103.size : Int) + 1))))) + 1))))) then (if (wrap64 ((Int.tmod (wrap64 ((wrap64 ((Int.tmod a2 (wrap64 ((t103.size : Int) + 1))) + (t103.size : Int))) + 1)) (wrap64 ((t103.size : Int) + 1))) + (Int.tmod (wrap64 ((wrap64 ((wrap64 ((Int.tmod a3 (wrap64 ((wrap64 ((t103.size : Int) - (Int.tmod (wrap64 ((wrap64 ((Int.tmod a2 (wrap64 ((t103.size : Int) + 1))) + (t103.size : Int))) + 1)) (wrap64 ((t103.size : Int) + 1))))) + 1))) + (t103.size : Int))) - (Int.tmod (wrap64 ((wrap64 ((Int.tmod a2 (wrap64 ((t103.size : Int) + 1))) + (t103.size : Int))) + 1)) (wrap64 ((t103.size : Int) + 1))))) + 1)) (wrap64 ((wrap64 ((t103.size : Int) - (Int.tmod (wrap64 ((wrap64 ((Int.tmod a2 (wrap64 ((t103.size : Int) + 1))) + (t103.size : Int))) + 1)) (wrap64 ((t103.size : Int) + 1))))) + 1))))) ≤ (t103.size : Int) then ((crc_More.f t104 (t103.extract ((Int.tmod (wrap64 ((wrap64 ((Int.tmod a2 (wrap64 ((t103.size : Int) + 1))) + (t103.size : Int))) + 1)) (wrap64 ((t103.size : Int) + 1))) : Int).toNat ((wrap64 ((Int.tmod (wrap64 ((wrap64 ((Int.tmod a2 (wrap64 ((t103.size : Int) + 1))) + (t103.size : Int))) + 1)) (wrap64 ((t103.size : Int) + 1))) + (Int.tmod (wrap64 ((wrap64 ((wrap64 ((Int.tmod a3 (wrap64 ((wrap64 ((t103.size : Int) - (Int.tmod (wrap64 ((wrap64 ((Int.tmod a2 (wrap64 ((t103.size : Int) + 1))) + (t103.size : Int))) + 1)) (wrap64 ((t103.size : Int) + 1))))) + 1))) + (t103.size : Int))) - (Int.tmod (wrap64 ((wrap64 ((Int.tmod a2 (wrap64 ((t103.size : Int) + 1))) + (t103.size : Int))) + 1)) (wrap64 ((t103.size : Int) + 1))))) + 1)) (wrap64 ((wrap64 ((t103.size : Int) - (Int.tmod (wrap64 ((wrap64 ((Int.tmod a2 (wrap64 ((t103.size : Int) + 1))) + (t103.size : Int))) + 1)) (wrap64 ((t103.size : Int) + 1))))) + 1))))) : Int).toNat)).bind fun t105 => (if 0 ≤ (wrap64 ((Int.tmod (wrap64 ((wrap64 ((Int.tmod a2 (wrap64 ((t103.size : Int) + 1))) + (t103.size : Int))) + 1)) (wrap64 ((t103.size : Int) + 1))) + (Int.tmod (wrap64 ((wrap64 ((wrap64 ((Int.tmod a3 (wrap64 ((wrap64 ((t103.size : Int) - (Int.tmod (wrap64 ((wrap64 ((Int.tmod a2 (wrap64 ((t103.size : Int) + 1))) + (t103.size : Int))) + 1)) (wrap64 ((t103.size : Int) + 1))))) + 1))) + (t103.size : Int))) - (Int.tmod (wrap64 ((wrap64 ((Int.tmod a2 (wrap64 ((t103.size : Int) + 1))) + (t103.size : Int))) + 1)) (wrap64 ((t103.size : Int) + 1))))) + 1)) (wrap64 ((wrap64 ((t103.size : Int) - (Int.tmod (wrap64 ((wrap64 ((Int.tmod a2 (wrap64 ((t103.size : Int) + 1))) + (t103.size : Int))) + 1)) (wrap64 ((t103.size : Int) + 1))))) + 1))))) then ((crc_More.f t105 (t103.extract ((wrap64 ((Int.tmod (wrap64 ((wrap64 ((Int.tmod a2 (wrap64 ((t103.size : Int) + 1))) + (t103.size : Int))) + 1)) (wrap64 ((t103.size : Int) + 1))) + (Int.tmod (wrap64 ((wrap64 ((wrap64 ((Int.tmod a3 (wrap64 ((wrap64 ((t103.size : Int) - (Int.tmod (wrap64 ((wrap64 ((Int.tmod a2 (wrap64 ((t103.size : Int) + 1))) + (t103.size : Int))) + 1)) (wrap64 ((t103.size : Int) + 1))))) + 1))) + (t103.size : Int))) - (Int.tmod (wrap64 ((wrap64 ((Int.tmod a2 (wrap64 ((t103.size : Int) + 1))) + (t103.size : Int))) + 1)) (wrap64 ((t103.size : Int) + 1))))) + 1)) (wrap64 ((wrap64 ((t103.size : Int) - (Int.tmod (wrap64 ((wrap64 ((Int.tmod a2 (wrap64 ((t103.size : Int) + 1))) + (t103.size : Int))) + 1)) (wrap64 ((t103.size : Int) + 1))))) + 1))))) : Int).toNat t103.size)).bind fun t106 => ((downpourlaw10_alive.f).bind fun t107 => (if t107 = true then ((crc_More.f a0 t103).bind fun t108 => (if t106 = t108 then ((crc_More.f a0 (⟨#[]⟩ : ByteArray)).bind fun t109 => (if t109 = a0 then ((crc_Sum.f t103).bind fun t110 => ((crc_More.f 0 t103).bind fun t111 => (some (t110 == t111)))) else (some false))) else (some false))) else (some false)))) else (none))) else (none)) else (none))) else (none)) else (none)))) = some r := H
  have A5 := Aside0.mk A50
  clear A50
  by_cases c6 : (wrap64 ((t103.size : Int) + 1)) = 0
  · rw [if_pos c6] at H
    exact absurd H (by simp)
  · rw [if_neg c6] at H
    have c6b0 : ((wrap64 ((t103.size : Int) + 1)) == 0) = false := beq_eq_false_iff_ne.mpr c6
    have c6b1 : ((wrap64 ((t103.size : Int) + 1)) != 0) = true := bne_iff_ne.mpr c6
    by_cases c7 : (wrap64 ((wrap64 ((t103.size : Int) - (Int.tmod (wrap64 ((wrap64 ((Int.tmod a2 (wrap64 ((t103.size : Int) + 1))) + (t103.size : Int))) + 1)) (wrap64 ((t103.size : Int) + 1))))) + 1)) = 0
    · rw [if_pos c7] at H
      exact absurd H (by simp)
    · rw [if_neg c7] at H
      have c7b0 : ((wrap64 ((wrap64 ((t103.size : Int) - (Int.tmod (wrap64 ((wrap64 ((Int.tmod a2 (wrap64 ((t103.size : Int) + 1))) + (t103.size : Int))) + 1)) (wrap64 ((t103.size : Int) + 1))))) + 1)) == 0) = false := beq_eq_false_iff_ne.mpr c7
      have c7b1 : ((wrap64 ((wrap64 ((t103.size : Int) - (Int.tmod (wrap64 ((wrap64 ((Int.tmod a2 (wrap64 ((t103.size : Int) + 1))) + (t103.size : Int))) + 1)) (wrap64 ((t103.size : Int) + 1))))) + 1)) != 0) = true := bne_iff_ne.mpr c7
      obtain ⟨ji8, hji8⟩ : ∃ j_ : Int, (Int.tmod (wrap64 ((wrap64 ((Int.tmod a2 (wrap64 ((t103.size : Int) + 1))) + (t103.size : Int))) + 1)) (wrap64 ((t103.size : Int) + 1))) = j_ := ⟨_, rfl⟩
      replace H : (if 0 ≤ (ji8) then (if (ji8) ≤ (t103.size : Int) then ((crc_More.f a0 (t103.extract 0 ((ji8) : Int).toNat)).bind fun t104 => (if (ji8) ≤ (wrap64 ((ji8) + (Int.tmod (wrap64 ((wrap64 ((wrap64 ((Int.tmod a3 (wrap64 ((wrap64 ((t103.size : Int) - (ji8))) + 1))) + (t103.size : Int))) - (ji8))) + 1)) (wrap64 ((wrap64 ((t103.size : Int) - (ji8))) + 1))))) then (if (wrap64 ((ji8) + (Int.tmod (wrap64 ((wrap64 ((wrap64 ((Int.tmod a3 (wrap64 ((wrap64 ((t103.size : Int) - (ji8))) + 1))) + (t103.size : Int))) - (ji8))) + 1)) (wrap64 ((wrap64 ((t103.size : Int) - (ji8))) + 1))))) ≤ (t103.size : Int) then ((crc_More.f t104 (t103.extract ((ji8) : Int).toNat ((wrap64 ((ji8) + (Int.tmod (wrap64 ((wrap64 ((wrap64 ((Int.tmod a3 (wrap64 ((wrap64 ((t103.size : Int) - (ji8))) + 1))) + (t103.size : Int))) - (ji8))) + 1)) (wrap64 ((wrap64 ((t103.size : Int) - (ji8))) + 1))))) : Int).toNat)).bind fun t105 => (if 0 ≤ (wrap64 ((ji8) + (Int.tmod (wrap64 ((wrap64 ((wrap64 ((Int.tmod a3 (wrap64 ((wrap64 ((t103.size : Int) - (ji8))) + 1))) + (t103.size : Int))) - (ji8))) + 1)) (wrap64 ((wrap64 ((t103.size : Int) - (ji8))) + 1))))) then ((crc_More.f t105 (t103.extract ((wrap64 ((ji8) + (Int.tmod (wrap64 ((wrap64 ((wrap64 ((Int.tmod a3 (wrap64 ((wrap64 ((t103.size : Int) - (ji8))) + 1))) + (t103.size : Int))) - (ji8))) + 1)) (wrap64 ((wrap64 ((t103.size : Int) - (ji8))) + 1))))) : Int).toNat t103.size)).bind fun t106 => ((downpourlaw10_alive.f).bind fun t107 => (if t107 = true then ((crc_More.f a0 t103).bind fun t108 => (if t106 = t108 then ((crc_More.f a0 (⟨#[]⟩ : ByteArray)).bind fun t109 => (if t109 = a0 then ((crc_Sum.f t103).bind fun t110 => ((crc_More.f 0 t103).bind fun t111 => (some (t110 == t111)))) else (some false))) else (some false))) else (some false)))) else (none))) else (none)) else (none))) else (none)) else (none)) = some r := by first | (rw [hji8] at H; exact H) | (simp only [hji8] at H ⊢; exact H)
      (try rw [hji8] at c7b0)
      (try rw [hji8] at c7b1)
      (try rw [hji8] at A5)
      by_cases c9 : 0 ≤ (ji8)
      · rw [if_pos c9] at H
        have c9b0 := eq_true c9
        have c9b1 : decide (0 ≤ (ji8)) = true := decide_eq_true c9
        clear c9
        by_cases c10 : (ji8) ≤ (t103.size : Int)
        · rw [if_pos c10] at H
          have c10b0 := eq_true c10
          have c10b1 : decide ((ji8) ≤ (t103.size : Int)) = true := decide_eq_true c10
          clear c10
          replace H := Option.bind_eq_some_iff.mp H
          obtain ⟨t104, A110, H⟩ := H
          replace H : (if (ji8) ≤ (wrap64 ((ji8) + (Int.tmod (wrap64 ((wrap64 ((wrap64 ((Int.tmod a3 (wrap64 ((wrap64 ((t103.size : Int) - (ji8))) + 1))) + (t103.size : Int))) - (ji8))) + 1)) (wrap64 ((wrap64 ((t103.size : Int) - (ji8))) + 1))))) then (if (wrap64 ((ji8) + (Int.tmod (wrap64 ((wrap64 ((wrap64 ((Int.tmod a3 (wrap64 ((wrap64 ((t103.size : Int) - (ji8))) + 1))) + (t103.size : Int))) - (ji8))) + 1)) (wrap64 ((wrap64 ((t103.size : Int) - (ji8))) + 1))))) ≤ (t103.size : Int) then ((crc_More.f t104 (t103.extract ((ji8) : Int).toNat ((wrap64 ((ji8) + (Int.tmod (wrap64 ((wrap64 ((wrap64 ((Int.tmod a3 (wrap64 ((wrap64 ((t103.size : Int) - (ji8))) + 1))) + (t103.size : Int))) - (ji8))) + 1)) (wrap64 ((wrap64 ((t103.size : Int) - (ji8))) + 1))))) : Int).toNat)).bind fun t105 => (if 0 ≤ (wrap64 ((ji8) + (Int.tmod (wrap64 ((wrap64 ((wrap64 ((Int.tmod a3 (wrap64 ((wrap64 ((t103.size : Int) - (ji8))) + 1))) + (t103.size : Int))) - (ji8))) + 1)) (wrap64 ((wrap64 ((t103.size : Int) - (ji8))) + 1))))) then ((crc_More.f t105 (t103.extract ((wrap64 ((ji8) + (Int.tmod (wrap64 ((wrap64 ((wrap64 ((Int.tmod a3 (wrap64 ((wrap64 ((t103.size : Int) - (ji8))) + 1))) + (t103.size : Int))) - (ji8))) + 1)) (wrap64 ((wrap64 ((t103.size : Int) - (ji8))) + 1))))) : Int).toNat t103.size)).bind fun t106 => ((downpourlaw10_alive.f).bind fun t107 => (if t107 = true then ((crc_More.f a0 t103).bind fun t108 => (if t106 = t108 then ((crc_More.f a0 (⟨#[]⟩ : ByteArray)).bind fun t109 => (if t109 = a0 then ((crc_Sum.f t103).bind fun t110 => ((crc_More.f 0 t103).bind fun t111 => (some (t110 == t111)))) else (some false))) else (some false))) else (some false)))) else (none))) else (none)) else (none)) = some r := H
          have A11 := Aside0.mk A110
          clear A110
          have c12b0 := eq_true (of_decide_eq_true (by first | (with_reducible assumption) | assumption) : 0 ≤ (ji8))
          by_cases c13 : (ji8) ≤ (wrap64 ((ji8) + (Int.tmod (wrap64 ((wrap64 ((wrap64 ((Int.tmod a3 (wrap64 ((wrap64 ((t103.size : Int) - (ji8))) + 1))) + (t103.size : Int))) - (ji8))) + 1)) (wrap64 ((wrap64 ((t103.size : Int) - (ji8))) + 1)))))
          · rw [if_pos c13] at H
            have c13b0 := eq_true c13
            have c13b1 : decide ((ji8) ≤ (wrap64 ((ji8) + (Int.tmod (wrap64 ((wrap64 ((wrap64 ((Int.tmod a3 (wrap64 ((wrap64 ((t103.size : Int) - (ji8))) + 1))) + (t103.size : Int))) - (ji8))) + 1)) (wrap64 ((wrap64 ((t103.size : Int) - (ji8))) + 1)))))) = true := decide_eq_true c13
            by_cases c14 : (wrap64 ((ji8) + (Int.tmod (wrap64 ((wrap64 ((wrap64 ((Int.tmod a3 (wrap64 ((wrap64 ((t103.size : Int) - (ji8))) + 1))) + (t103.size : Int))) - (ji8))) + 1)) (wrap64 ((wrap64 ((t103.size : Int) - (ji8))) + 1))))) ≤ (t103.size : Int)
            · rw [if_pos c14] at H
              have c14b0 := eq_true c14
              have c14b1 : decide ((wrap64 ((ji8) + (Int.tmod (wrap64 ((wrap64 ((wrap64 ((Int.tmod a3 (wrap64 ((wrap64 ((t103.size : Int) - (ji8))) + 1))) + (t103.size : Int))) - (ji8))) + 1)) (wrap64 ((wrap64 ((t103.size : Int) - (ji8))) + 1))))) ≤ (t103.size : Int)) = true := decide_eq_true c14
              replace H := Option.bind_eq_some_iff.mp H
              obtain ⟨t105, A150, H⟩ := H
              replace H : (if 0 ≤ (wrap64 ((ji8) + (Int.tmod (wrap64 ((wrap64 ((wrap64 ((Int.tmod a3 (wrap64 ((wrap64 ((t103.size : Int) - (ji8))) + 1))) + (t103.size : Int))) - (ji8))) + 1)) (wrap64 ((wrap64 ((t103.size : Int) - (ji8))) + 1))))) then ((crc_More.f t105 (t103.extract ((wrap64 ((ji8) + (Int.tmod (wrap64 ((wrap64 ((wrap64 ((Int.tmod a3 (wrap64 ((wrap64 ((t103.size : Int) - (ji8))) + 1))) + (t103.size : Int))) - (ji8))) + 1)) (wrap64 ((wrap64 ((t103.size : Int) - (ji8))) + 1))))) : Int).toNat t103.size)).bind fun t106 => ((downpourlaw10_alive.f).bind fun t107 => (if t107 = true then ((crc_More.f a0 t103).bind fun t108 => (if t106 = t108 then ((crc_More.f a0 (⟨#[]⟩ : ByteArray)).bind fun t109 => (if t109 = a0 then ((crc_Sum.f t103).bind fun t110 => ((crc_More.f 0 t103).bind fun t111 => (some (t110 == t111)))) else (some false))) else (some false))) else (some false)))) else (none)) = some r := H
              have A15 := Aside0.mk A150
              clear A150
              obtain ⟨ji16, hji16⟩ : ∃ j_ : Int, (wrap64 ((ji8) + (Int.tmod (wrap64 ((wrap64 ((wrap64 ((Int.tmod a3 (wrap64 ((wrap64 ((t103.size : Int) - (ji8))) + 1))) + (t103.size : Int))) - (ji8))) + 1)) (wrap64 ((wrap64 ((t103.size : Int) - (ji8))) + 1))))) = j_ := ⟨_, rfl⟩
              replace H : (if 0 ≤ (ji16) then ((crc_More.f t105 (t103.extract ((ji16) : Int).toNat t103.size)).bind fun t106 => ((downpourlaw10_alive.f).bind fun t107 => (if t107 = true then ((crc_More.f a0 t103).bind fun t108 => (if t106 = t108 then ((crc_More.f a0 (⟨#[]⟩ : ByteArray)).bind fun t109 => (if t109 = a0 then ((crc_Sum.f t103).bind fun t110 => ((crc_More.f 0 t103).bind fun t111 => (some (t110 == t111)))) else (some false))) else (some false))) else (some false)))) else (none)) = some r := by first | (rw [hji16] at H; exact H) | (simp only [hji16] at H ⊢; exact H)
              (try rw [hji16] at c13b0)
              (try rw [hji16] at c13b1)
              (try rw [hji16] at c13)
              (try rw [hji16] at c14b0)
              (try rw [hji16] at c14b1)
              (try rw [hji16] at c14)
              (try rw [hji16] at A5)
              (try rw [hji16] at A11)
              (try rw [hji16] at A15)
              have hji16w : (IntKind.i64.wrap ((ji8) + (Int.tmod (wrap64 ((wrap64 ((wrap64 ((Int.tmod a3 (wrap64 ((wrap64 ((t103.size : Int) - (ji8))) + 1))) + (t103.size : Int))) - (ji8))) + 1)) (wrap64 ((wrap64 ((t103.size : Int) - (ji8))) + 1))))) = ji16 := (i64_w _).trans hji16
              by_cases c17 : 0 ≤ (ji16)
              · rw [if_pos c17] at H
                have c17b0 := eq_true c17
                have c17b1 : decide (0 ≤ (ji16)) = true := decide_eq_true c17
                clear c17
                have c18b0 := eq_true (of_decide_eq_true (by first | (with_reducible assumption) | assumption) : (ji16) ≤ (t103.size : Int))
                replace H := Option.bind_eq_some_iff.mp H
                obtain ⟨t106, A190, H⟩ := H
                replace H : ((downpourlaw10_alive.f).bind fun t107 => (if t107 = true then ((crc_More.f a0 t103).bind fun t108 => (if t106 = t108 then ((crc_More.f a0 (⟨#[]⟩ : ByteArray)).bind fun t109 => (if t109 = a0 then ((crc_Sum.f t103).bind fun t110 => ((crc_More.f 0 t103).bind fun t111 => (some (t110 == t111)))) else (some false))) else (some false))) else (some false))) = some r := H
                have A19 := Aside0.mk A190
                clear A190
                replace H := Option.bind_eq_some_iff.mp H
                obtain ⟨t107, A200, H⟩ := H
                replace H : (if t107 = true then ((crc_More.f a0 t103).bind fun t108 => (if t106 = t108 then ((crc_More.f a0 (⟨#[]⟩ : ByteArray)).bind fun t109 => (if t109 = a0 then ((crc_Sum.f t103).bind fun t110 => ((crc_More.f 0 t103).bind fun t111 => (some (t110 == t111)))) else (some false))) else (some false))) else (some false)) = some r := H
                have A20 := Aside0.mk A200
                clear A200
                by_cases c21 : t107 = true
                · subst c21
                  have H1 : ((crc_More.f a0 t103).bind fun t108 => (if t106 = t108 then ((crc_More.f a0 (⟨#[]⟩ : ByteArray)).bind fun t109 => (if t109 = a0 then ((crc_Sum.f t103).bind fun t110 => ((crc_More.f 0 t103).bind fun t111 => (some (t110 == t111)))) else (some false))) else (some false))) = some r := by rw [if_pos rfl] at H; exact H
                  clear H
                  have H := H1
                  clear H1
                  replace H := Option.bind_eq_some_iff.mp H
                  obtain ⟨t108, A220, H⟩ := H
                  replace H : (if t106 = t108 then ((crc_More.f a0 (⟨#[]⟩ : ByteArray)).bind fun t109 => (if t109 = a0 then ((crc_Sum.f t103).bind fun t110 => ((crc_More.f 0 t103).bind fun t111 => (some (t110 == t111)))) else (some false))) else (some false)) = some r := H
                  have A22 := Aside0.mk A220
                  clear A220
                  by_cases c23 : t106 = t108
                  · rw [if_pos c23] at H
                    have c23b0 : (t106 == t108) = true := beq_iff_eq.mpr c23
                    have c23b1 : (t106 != t108) = false := bne_eq_false_iff_eq.mpr c23
                    clear c23
                    replace H := Option.bind_eq_some_iff.mp H
                    obtain ⟨t109, A240, H⟩ := H
                    replace H : (if t109 = a0 then ((crc_Sum.f t103).bind fun t110 => ((crc_More.f 0 t103).bind fun t111 => (some (t110 == t111)))) else (some false)) = some r := H
                    have A24 := Aside0.mk A240
                    clear A240
                    by_cases c25 : t109 = a0
                    · rw [if_pos c25] at H
                      have c25b0 : (t109 == a0) = true := beq_iff_eq.mpr c25
                      have c25b1 : (t109 != a0) = false := bne_eq_false_iff_eq.mpr c25
                      clear c25
                      replace H := Option.bind_eq_some_iff.mp H
                      obtain ⟨t110, A260, H⟩ := H
                      replace H : ((crc_More.f 0 t103).bind fun t111 => (some (t110 == t111))) = some r := H
                      have A26 := Aside0.mk A260
                      clear A260
                      replace H := Option.bind_eq_some_iff.mp H
                      obtain ⟨t111, A270, H⟩ := H
                      replace H : (some (t110 == t111)) = some r := H
                      have A27 := Aside0.mk A270
                      clear A270
                      obtain rfl := Option.some.inj H
                      try have c6z := beq_eq_false_iff_ne.mp c6b0
                      try have c7z := beq_eq_false_iff_ne.mp c7b0
                      go_enter Try.func3, Try.ntmps3
                      try go_wp2_with (first | ((with_reducible refine gate_callee (f := 10) rfl ?_); refine goesL_ (some 11) rfl rfl Try.func10 (by kernel_rfl) rfl #[.string a1] rfl (by (try simp only [List.map_toArray, List.map_cons, List.map_nil]); first | done | rfl | (simp only [List.length_drop, List.length_take]; rfl)) ?_; (with_reducible refine (downpourlaw10_cut.calls a1 t103 _ A5.out).mono ?_); rintro e w28 ⟨rfl, hb⟩; refine ⟨_, rfl, ?_⟩; have n0_ := Aside0.mk (below_step (by repeat (first | (with_reducible first | exact HB.out | apply below_alloc | apply pw_below_drewN | apply below_drew1) | exact HB.out)) hb); clear HB; have HB := n0_; clear n0_; (try clear hb); (try clear hb2); (try clear hk); (try clear hi)))
                      have n0_ := Aside0.mk (below_drew1 HB.out)
                      clear HB
                      have HB := n0_
                      clear n0_
                      refine start_ (n := 19) (S := fun w' => True) (ds := []) #[false, false, false, false, false, false, false, false, false, false, false, false, false, false, false, false, false, false, false] (by kernel_rfl) rfl rfl trivial (fun hHeld => ?_); refine with_tabW downpourlaw10_CrcParts.tab4 downpourlaw10_CrcParts.bits4 (fun HT_ HW_ => ?_)
                      generalize w28.drew = w29 at HB hHeld ⊢
                      refine pure_ (i := 0) (N := some 44) (v := ?_) (a' := ?_) #[true, false, false, false, false, false, false, false, false, false, false, false, false, false, false, false, false, false, false] rfl rfl (any_of HT_.out (by kernel_rfl)) (fun _ _ _ h => h) (Or.inl ⟨by rfl, ?_⟩) ?_ ?_
                      rotate_left
                      · intro w'
                        go_simp
                        with_reducible rfl
                      rotate_left
                      · simp only [Act.put, List.setIfInBounds_toArray, List.set_cons_zero, List.set_cons_succ, i64_w, i32_w]
                        rfl
                      refine pure_ (i := 1) (N := some 45) (v := ?_) (a' := ?_) #[true, true, false, false, false, false, false, false, false, false, false, false, false, false, false, false, false, false, false] rfl rfl (any_of HT_.out (by kernel_rfl)) (fun _ _ _ h => h) (Or.inl ⟨by rfl, ?_⟩) ?_ ?_
                      rotate_left
                      · intro w'
                        go_simp
                        with_reducible rfl
                      rotate_left
                      · simp only [Act.put, List.setIfInBounds_toArray, List.set_cons_zero, List.set_cons_succ, i64_w, i32_w]
                        rfl
                      refine pure_ (i := 2) (N := some 46) (v := ?_) (a' := ?_) #[true, true, true, false, false, false, false, false, false, false, false, false, false, false, false, false, false, false, false] rfl rfl (any_of HT_.out (by kernel_rfl)) (fun _ _ _ h => h) (Or.inl ⟨by rfl, ?_⟩) ?_ ?_
                      rotate_left
                      · intro w'
                        go_simp
                        with_reducible rfl
                      rotate_left
                      · simp only [Act.put, List.setIfInBounds_toArray, List.set_cons_zero, List.set_cons_succ, i64_w, i32_w]
                        rfl
                      refine pure_ (i := 3) (N := some 47) (v := ?_) (a' := ?_) #[true, true, true, true, false, false, false, false, false, false, false, false, false, false, false, false, false, false, false] rfl rfl (any_of HT_.out (by kernel_rfl)) (fun _ _ _ h => h) (Or.inl ⟨by rfl, ?_⟩) ?_ ?_
                      rotate_left
                      · intro w'
                        go_simp
                        with_reducible rfl
                      rotate_left
                      · simp only [Act.put, List.setIfInBounds_toArray, List.set_cons_zero, List.set_cons_succ, i64_w, i32_w]
                        rfl
                      refine pure_ (i := 5) (N := some 49) (v := ?_) (a' := ?_) #[true, true, true, true, false, true, false, false, false, false, false, false, false, false, false, false, false, false, false] rfl rfl (any_of HT_.out (by kernel_rfl)) (fun _ _ _ h => h) (Or.inl ⟨by rfl, ?_⟩) ?_ ?_
                      rotate_left
                      · intro w'
                        go_simp
                        with_reducible rfl
                      rotate_left
                      · simp only [Act.put, List.setIfInBounds_toArray, List.set_cons_zero, List.set_cons_succ, i64_w, i32_w]
                        rfl
                      refine pure_ (i := 6) (N := some 50) (v := ?_) (a' := ?_) #[true, true, true, true, false, true, true, false, false, false, false, false, false, false, false, false, false, false, false] rfl rfl (any_of HT_.out (by kernel_rfl)) (fun _ _ _ h => h) (Or.inl ⟨by rfl, ?_⟩) ?_ ?_
                      rotate_left
                      · intro w'
                        go_simp
                        with_reducible rfl
                      rotate_left
                      · simp only [Act.put, List.setIfInBounds_toArray, List.set_cons_zero, List.set_cons_succ, i64_w, i32_w]
                        rfl
                      refine pure_ (i := 7) (N := some 51) (v := ?_) (a' := ?_) #[true, true, true, true, false, true, true, true, false, false, false, false, false, false, false, false, false, false, false] rfl rfl (any_of HT_.out (by kernel_rfl)) (fun _ _ _ h => h) (Or.inl ⟨by rfl, ?_⟩) ?_ ?_
                      rotate_left
                      · intro w'
                        go_simp
                        with_reducible rfl
                      rotate_left
                      · simp only [Act.put, List.setIfInBounds_toArray, List.set_cons_zero, List.set_cons_succ, i64_w, i32_w]
                        rfl
                      refine pure_ (i := 8) (N := some 52) (v := ?_) (a' := ?_) #[true, true, true, true, false, true, true, true, true, false, false, false, false, false, false, false, false, false, false] rfl rfl (any_of HT_.out (by kernel_rfl)) (fun _ _ _ h => h) (Or.inl ⟨by rfl, ?_⟩) ?_ ?_
                      rotate_left
                      · intro w'
                        go_simp
                        with_reducible rfl
                      rotate_left
                      · simp only [Act.put, List.setIfInBounds_toArray, List.set_cons_zero, List.set_cons_succ, i64_w, i32_w]
                        rfl
                      refine pure_ (i := 9) (N := some 53) (v := ?_) (a' := ?_) #[true, true, true, true, false, true, true, true, true, true, false, false, false, false, false, false, false, false, false] rfl rfl (any_of HT_.out (by kernel_rfl)) (fun _ _ _ h => h) (Or.inl ⟨by rfl, ?_⟩) ?_ ?_
                      rotate_left
                      · intro w'
                        go_simp
                        with_reducible rfl
                      rotate_left
                      · simp only [Act.put, List.setIfInBounds_toArray, List.set_cons_zero, List.set_cons_succ, i64_w, i32_w]
                        rfl
                      refine pure_ (i := 10) (N := some 54) (v := ?_) (a' := ?_) #[true, true, true, true, false, true, true, true, true, true, true, false, false, false, false, false, false, false, false] rfl rfl (any_of HT_.out (by kernel_rfl)) (fun _ _ _ h => h) (Or.inl ⟨by rfl, ?_⟩) ?_ ?_
                      rotate_left
                      · intro w'
                        go_simp
                        with_reducible rfl
                      rotate_left
                      · simp only [Act.put, List.setIfInBounds_toArray, List.set_cons_zero, List.set_cons_succ, i64_w, i32_w]
                        rfl
                      refine pure_ (i := 12) (N := some 56) (v := ?_) (a' := ?_) #[true, true, true, true, false, true, true, true, true, true, true, false, true, false, false, false, false, false, false] rfl rfl (any_of HT_.out (by kernel_rfl)) (fun _ _ _ h => h) (Or.inl ⟨by rfl, ?_⟩) ?_ ?_
                      rotate_left
                      · intro w'
                        go_simp
                        with_reducible rfl
                      rotate_left
                      · simp only [Act.put, List.setIfInBounds_toArray, List.set_cons_zero, List.set_cons_succ, i64_w, i32_w]
                        rfl
                      refine pure_ (i := 13) (N := some 57) (v := ?_) (a' := ?_) #[true, true, true, true, false, true, true, true, true, true, true, false, true, true, false, false, false, false, false] rfl rfl (any_of HT_.out (by kernel_rfl)) (fun _ _ _ h => h) (Or.inl ⟨by rfl, ?_⟩) ?_ ?_
                      rotate_left
                      · intro w'
                        go_simp
                        with_reducible rfl
                      rotate_left
                      · simp only [Act.put, List.setIfInBounds_toArray, List.set_cons_zero, List.set_cons_succ, i64_w, i32_w]
                        rfl
                      refine pure_ (i := 14) (N := some 58) (v := ?_) (a' := ?_) #[true, true, true, true, false, true, true, true, true, true, true, false, true, true, true, false, false, false, false] rfl rfl (any_of HT_.out (by kernel_rfl)) (fun _ _ _ h => h) (Or.inl ⟨by rfl, ?_⟩) ?_ ?_
                      rotate_left
                      · intro w'
                        go_simp
                        with_reducible rfl
                      rotate_left
                      · simp only [Act.put, List.setIfInBounds_toArray, List.set_cons_zero, List.set_cons_succ, i64_w, i32_w]
                        rfl
                      refine pure_ (i := 15) (N := some 59) (v := ?_) (a' := ?_) #[true, true, true, true, false, true, true, true, true, true, true, false, true, true, true, true, false, false, false] rfl rfl (any_of HT_.out (by kernel_rfl)) (fun _ _ _ h => h) (Or.inl ⟨by rfl, ?_⟩) ?_ ?_
                      rotate_left
                      · intro w'
                        go_simp
                        with_reducible rfl
                      rotate_left
                      · simp only [Act.put, List.setIfInBounds_toArray, List.set_cons_zero, List.set_cons_succ, i64_w, i32_w]
                        rfl
                      refine pure_ (i := 16) (N := some 60) (v := ?_) (a' := ?_) #[true, true, true, true, false, true, true, true, true, true, true, false, true, true, true, true, true, false, false] rfl rfl (any_of HT_.out (by kernel_rfl)) (fun _ _ _ h => h) (Or.inl ⟨by rfl, ?_⟩) ?_ ?_
                      rotate_left
                      · intro w'
                        go_simp
                        with_reducible rfl
                      rotate_left
                      · simp only [Act.put, List.setIfInBounds_toArray, List.set_cons_zero, List.set_cons_succ, i64_w, i32_w]
                        rfl
                      refine one_ (i := 4) (N := some 48) #[true, true, true, true, true, true, true, true, true, true, true, false, true, true, true, true, true, false, false] rfl rfl (one_of HT_.out (by kernel_rfl)) (by decide) (fun K hK => ?_)
                      refine goes_ Try.func11 (by kernel_rfl) rfl #[.int .u32 a0, .string (t103.extract 0 ((ji8) : Int).toNat)] (by rfl) rfl rfl (by (try simp only [List.map_toArray, List.map_cons, List.map_nil]); first | done | (simp only [hji8]; rfl) | rfl | (simp only [List.length_drop, List.length_take]; rfl)) ?_
                      with_reducible refine (crc_More.calls a0 (t103.extract 0 ((ji8) : Int).toNat) t104 _ A11.out).mono ?_
                      rintro e w30 ⟨rfl, hb⟩
                      refine ⟨_, rfl, ?_⟩
                      have n0_ := Aside0.mk (below_step (by repeat (first | (with_reducible first | exact HB.out | apply below_alloc | apply pw_below_drewN | apply below_drew1) | exact HB.out)) hb)
                      clear HB
                      have HB := n0_
                      clear n0_
                      (try clear hb)
                      (try clear hb2)
                      (try clear hk)
                      (try clear hi)
                      refine hK.out _ _ trivial (fun hHeld => ?_)
                      clear hK K
                      refine norm_ (a' := ?_) ?_ ?_
                      rotate_left
                      · show Act.put _ (some 48) _ = _
                        simp only [Act.put, List.setIfInBounds_toArray, List.set_cons_zero, List.set_cons_succ, i64_w, i32_w]
                        rfl
                      refine one_ (i := 11) (N := some 55) #[true, true, true, true, true, true, true, true, true, true, true, true, true, true, true, true, true, false, false] rfl rfl (one_of HT_.out (by kernel_rfl)) (by decide) (fun K hK => ?_)
                      refine goes_ Try.func11 (by kernel_rfl) rfl #[.int .u32 t104, .string (t103.extract ((ji8) : Int).toNat ((ji16) : Int).toNat)] (by rfl) rfl rfl (by (try simp only [List.map_toArray, List.map_cons, List.map_nil]); first | done | (simp only [hji16, hji8]; rfl) | rfl | (simp only [List.length_drop, List.length_take]; rfl)) ?_
                      with_reducible refine (crc_More.calls t104 (t103.extract ((ji8) : Int).toNat ((ji16) : Int).toNat) t105 _ A15.out).mono ?_
                      rintro e w31 ⟨rfl, hb⟩
                      refine ⟨_, rfl, ?_⟩
                      have n0_ := Aside0.mk (below_step (by repeat (first | (with_reducible first | exact HB.out | apply below_alloc | apply pw_below_drewN | apply below_drew1) | exact HB.out)) hb)
                      clear HB
                      have HB := n0_
                      clear n0_
                      (try clear hb)
                      (try clear hb2)
                      (try clear hk)
                      (try clear hi)
                      refine hK.out _ _ trivial (fun hHeld => ?_)
                      clear hK K
                      refine norm_ (a' := ?_) ?_ ?_
                      rotate_left
                      · show Act.put _ (some 55) _ = _
                        simp only [Act.put, List.setIfInBounds_toArray, List.set_cons_zero, List.set_cons_succ, i64_w, i32_w]
                        rfl
                      refine one_ (i := 17) (N := some 61) #[true, true, true, true, true, true, true, true, true, true, true, true, true, true, true, true, true, true, false] rfl rfl (one_of HT_.out (by kernel_rfl)) (by decide) (fun K hK => ?_)
                      refine goes_ Try.func11 (by kernel_rfl) rfl #[.int .u32 t105, .string (t103.extract ((ji16) : Int).toNat t103.size)] (by rfl) rfl rfl (by (try simp only [List.map_toArray, List.map_cons, List.map_nil]); first | done | (simp only [hji16]; rfl) | rfl | (simp only [List.length_drop, List.length_take]; rfl)) ?_
                      with_reducible refine (crc_More.calls t105 (t103.extract ((ji16) : Int).toNat t103.size) t106 _ A19.out).mono ?_
                      rintro e w32 ⟨rfl, hb⟩
                      refine ⟨_, rfl, ?_⟩
                      have n0_ := Aside0.mk (below_step (by repeat (first | (with_reducible first | exact HB.out | apply below_alloc | apply pw_below_drewN | apply below_drew1) | exact HB.out)) hb)
                      clear HB
                      have HB := n0_
                      clear n0_
                      (try clear hb)
                      (try clear hb2)
                      (try clear hk)
                      (try clear hi)
                      refine hK.out _ _ trivial (fun hHeld => ?_)
                      clear hK K
                      refine norm_ (a' := ?_) ?_ ?_
                      rotate_left
                      · show Act.put _ (some 61) _ = _
                        simp only [Act.put, List.setIfInBounds_toArray, List.set_cons_zero, List.set_cons_succ, i64_w, i32_w]
                        rfl
                      refine pure_ (i := 18) (N := some 9) (v := ?_) (a' := ?_) #[true, true, true, true, true, true, true, true, true, true, true, true, true, true, true, true, true, true, true] rfl rfl (any_of HT_.out (by kernel_rfl)) (fun _ _ _ h => h) (Or.inl ⟨by rfl, ?_⟩) ?_ ?_
                      rotate_left
                      · intro w'
                        go_simp
                        with_reducible rfl
                      rotate_left
                      · simp only [Act.put, List.setIfInBounds_toArray, List.set_cons_zero, List.set_cons_succ, i64_w, i32_w]
                        rfl
                      refine done_ (done_of HT_.out (by kernel_rfl)) ?_
                      try go_wp2_with (first | ((with_reducible refine gate_callee (f := 12) rfl ?_); refine goesL_ (some 62) rfl rfl Try.func12 (by kernel_rfl) rfl #[] rfl (by (try simp only [List.map_toArray, List.map_cons, List.map_nil]); first | done | rfl | (simp only [List.length_drop, List.length_take]; rfl)) ?_; (with_reducible refine (downpourlaw10_alive.calls  true _ A20.out).mono ?_); rintro e w33 ⟨rfl, hb⟩; refine ⟨_, rfl, ?_⟩; have n0_ := Aside0.mk (below_step (by repeat (first | (with_reducible first | exact HB.out | apply below_alloc | apply pw_below_drewN | apply below_drew1) | exact HB.out)) hb); clear HB; have HB := n0_; clear n0_; (try clear hb); (try clear hb2); (try clear hk); (try clear hi)) | (go_at_call 11; (with_reducible refine (crc_More.calls a0 t103 t108 _ A22.out).mono ?_); rintro e w34 ⟨rfl, hb⟩; have n0_ := Aside0.mk (below_step (by repeat (first | (with_reducible first | exact HB.out | apply below_alloc | apply pw_below_drewN | apply below_drew1) | exact HB.out)) hb); clear HB; have HB := n0_; clear n0_; (try clear hb); (try clear hb2); (try clear hk); (try clear hi)) | (go_at_call 11; (with_reducible refine (crc_More.calls a0 (⟨#[]⟩ : ByteArray) t109 _ A24.out).mono ?_); rintro e w35 ⟨rfl, hb⟩; have n0_ := Aside0.mk (below_step (by repeat (first | (with_reducible first | exact HB.out | apply below_alloc | apply pw_below_drewN | apply below_drew1) | exact HB.out)) hb); clear HB; have HB := n0_; clear n0_; (try clear hb); (try clear hb2); (try clear hk); (try clear hi)) | (go_at_call 13; (with_reducible refine (crc_Sum.calls t103 t110 _ A26.out).mono ?_); rintro e w36 ⟨rfl, hb⟩; have n0_ := Aside0.mk (below_step (by repeat (first | (with_reducible first | exact HB.out | apply below_alloc | apply pw_below_drewN | apply below_drew1) | exact HB.out)) hb); clear HB; have HB := n0_; clear n0_; (try clear hb); (try clear hb2); (try clear hk); (try clear hi)) | (go_at_call 11; (with_reducible refine (crc_More.calls 0 t103 t111 _ A27.out).mono ?_); rintro e w37 ⟨rfl, hb⟩; have n0_ := Aside0.mk (below_step (by repeat (first | (with_reducible first | exact HB.out | apply below_alloc | apply pw_below_drewN | apply below_drew1) | exact HB.out)) hb); clear HB; have HB := n0_; clear n0_; (try clear hb); (try clear hb2); (try clear hk); (try clear hi)))
                      go_ret
                      exact ⟨by first | rfl | (simp [errW_none, errW_some] <;> rfl) | (simp only [← hji8, ← hji16]; first | rfl | (simp [errW_none, errW_some] <;> rfl)) | (simp [*, errW_none, errW_some] <;> rfl), by repeat (first | (with_reducible first | exact HB.out | apply below_alloc | apply pw_below_drewN | apply below_drew1) | exact HB.out)⟩
                    · rw [if_neg c25] at H
                      have c25b0 : (t109 == a0) = false := beq_eq_false_iff_ne.mpr c25
                      have c25b1 : (t109 != a0) = true := bne_iff_ne.mpr c25
                      obtain rfl := Option.some.inj H
                      try have c6z := beq_eq_false_iff_ne.mp c6b0
                      try have c7z := beq_eq_false_iff_ne.mp c7b0
                      go_enter Try.func3, Try.ntmps3
                      try go_wp2_with (first | ((with_reducible refine gate_callee (f := 10) rfl ?_); refine goesL_ (some 11) rfl rfl Try.func10 (by kernel_rfl) rfl #[.string a1] rfl (by (try simp only [List.map_toArray, List.map_cons, List.map_nil]); first | done | rfl | (simp only [List.length_drop, List.length_take]; rfl)) ?_; (with_reducible refine (downpourlaw10_cut.calls a1 t103 _ A5.out).mono ?_); rintro e w38 ⟨rfl, hb⟩; refine ⟨_, rfl, ?_⟩; have n0_ := Aside0.mk (below_step (by repeat (first | (with_reducible first | exact HB.out | apply below_alloc | apply pw_below_drewN | apply below_drew1) | exact HB.out)) hb); clear HB; have HB := n0_; clear n0_; (try clear hb); (try clear hb2); (try clear hk); (try clear hi)))
                      have n0_ := Aside0.mk (below_drew1 HB.out)
                      clear HB
                      have HB := n0_
                      clear n0_
                      refine start_ (n := 19) (S := fun w' => True) (ds := []) #[false, false, false, false, false, false, false, false, false, false, false, false, false, false, false, false, false, false, false] (by kernel_rfl) rfl rfl trivial (fun hHeld => ?_); refine with_tabW downpourlaw10_CrcParts.tab4 downpourlaw10_CrcParts.bits4 (fun HT_ HW_ => ?_)
                      generalize w38.drew = w39 at HB hHeld ⊢
                      refine pure_ (i := 0) (N := some 44) (v := ?_) (a' := ?_) #[true, false, false, false, false, false, false, false, false, false, false, false, false, false, false, false, false, false, false] rfl rfl (any_of HT_.out (by kernel_rfl)) (fun _ _ _ h => h) (Or.inl ⟨by rfl, ?_⟩) ?_ ?_
                      rotate_left
                      · intro w'
                        go_simp
                        with_reducible rfl
                      rotate_left
                      · simp only [Act.put, List.setIfInBounds_toArray, List.set_cons_zero, List.set_cons_succ, i64_w, i32_w]
                        rfl
                      refine pure_ (i := 1) (N := some 45) (v := ?_) (a' := ?_) #[true, true, false, false, false, false, false, false, false, false, false, false, false, false, false, false, false, false, false] rfl rfl (any_of HT_.out (by kernel_rfl)) (fun _ _ _ h => h) (Or.inl ⟨by rfl, ?_⟩) ?_ ?_
                      rotate_left
                      · intro w'
                        go_simp
                        with_reducible rfl
                      rotate_left
                      · simp only [Act.put, List.setIfInBounds_toArray, List.set_cons_zero, List.set_cons_succ, i64_w, i32_w]
                        rfl
                      refine pure_ (i := 2) (N := some 46) (v := ?_) (a' := ?_) #[true, true, true, false, false, false, false, false, false, false, false, false, false, false, false, false, false, false, false] rfl rfl (any_of HT_.out (by kernel_rfl)) (fun _ _ _ h => h) (Or.inl ⟨by rfl, ?_⟩) ?_ ?_
                      rotate_left
                      · intro w'
                        go_simp
                        with_reducible rfl
                      rotate_left
                      · simp only [Act.put, List.setIfInBounds_toArray, List.set_cons_zero, List.set_cons_succ, i64_w, i32_w]
                        rfl
                      refine pure_ (i := 3) (N := some 47) (v := ?_) (a' := ?_) #[true, true, true, true, false, false, false, false, false, false, false, false, false, false, false, false, false, false, false] rfl rfl (any_of HT_.out (by kernel_rfl)) (fun _ _ _ h => h) (Or.inl ⟨by rfl, ?_⟩) ?_ ?_
                      rotate_left
                      · intro w'
                        go_simp
                        with_reducible rfl
                      rotate_left
                      · simp only [Act.put, List.setIfInBounds_toArray, List.set_cons_zero, List.set_cons_succ, i64_w, i32_w]
                        rfl
                      refine pure_ (i := 5) (N := some 49) (v := ?_) (a' := ?_) #[true, true, true, true, false, true, false, false, false, false, false, false, false, false, false, false, false, false, false] rfl rfl (any_of HT_.out (by kernel_rfl)) (fun _ _ _ h => h) (Or.inl ⟨by rfl, ?_⟩) ?_ ?_
                      rotate_left
                      · intro w'
                        go_simp
                        with_reducible rfl
                      rotate_left
                      · simp only [Act.put, List.setIfInBounds_toArray, List.set_cons_zero, List.set_cons_succ, i64_w, i32_w]
                        rfl
                      refine pure_ (i := 6) (N := some 50) (v := ?_) (a' := ?_) #[true, true, true, true, false, true, true, false, false, false, false, false, false, false, false, false, false, false, false] rfl rfl (any_of HT_.out (by kernel_rfl)) (fun _ _ _ h => h) (Or.inl ⟨by rfl, ?_⟩) ?_ ?_
                      rotate_left
                      · intro w'
                        go_simp
                        with_reducible rfl
                      rotate_left
                      · simp only [Act.put, List.setIfInBounds_toArray, List.set_cons_zero, List.set_cons_succ, i64_w, i32_w]
                        rfl
                      refine pure_ (i := 7) (N := some 51) (v := ?_) (a' := ?_) #[true, true, true, true, false, true, true, true, false, false, false, false, false, false, false, false, false, false, false] rfl rfl (any_of HT_.out (by kernel_rfl)) (fun _ _ _ h => h) (Or.inl ⟨by rfl, ?_⟩) ?_ ?_
                      rotate_left
                      · intro w'
                        go_simp
                        with_reducible rfl
                      rotate_left
                      · simp only [Act.put, List.setIfInBounds_toArray, List.set_cons_zero, List.set_cons_succ, i64_w, i32_w]
                        rfl
                      refine pure_ (i := 8) (N := some 52) (v := ?_) (a' := ?_) #[true, true, true, true, false, true, true, true, true, false, false, false, false, false, false, false, false, false, false] rfl rfl (any_of HT_.out (by kernel_rfl)) (fun _ _ _ h => h) (Or.inl ⟨by rfl, ?_⟩) ?_ ?_
                      rotate_left
                      · intro w'
                        go_simp
                        with_reducible rfl
                      rotate_left
                      · simp only [Act.put, List.setIfInBounds_toArray, List.set_cons_zero, List.set_cons_succ, i64_w, i32_w]
                        rfl
                      refine pure_ (i := 9) (N := some 53) (v := ?_) (a' := ?_) #[true, true, true, true, false, true, true, true, true, true, false, false, false, false, false, false, false, false, false] rfl rfl (any_of HT_.out (by kernel_rfl)) (fun _ _ _ h => h) (Or.inl ⟨by rfl, ?_⟩) ?_ ?_
                      rotate_left
                      · intro w'
                        go_simp
                        with_reducible rfl
                      rotate_left
                      · simp only [Act.put, List.setIfInBounds_toArray, List.set_cons_zero, List.set_cons_succ, i64_w, i32_w]
                        rfl
                      refine pure_ (i := 10) (N := some 54) (v := ?_) (a' := ?_) #[true, true, true, true, false, true, true, true, true, true, true, false, false, false, false, false, false, false, false] rfl rfl (any_of HT_.out (by kernel_rfl)) (fun _ _ _ h => h) (Or.inl ⟨by rfl, ?_⟩) ?_ ?_
                      rotate_left
                      · intro w'
                        go_simp
                        with_reducible rfl
                      rotate_left
                      · simp only [Act.put, List.setIfInBounds_toArray, List.set_cons_zero, List.set_cons_succ, i64_w, i32_w]
                        rfl
                      refine pure_ (i := 12) (N := some 56) (v := ?_) (a' := ?_) #[true, true, true, true, false, true, true, true, true, true, true, false, true, false, false, false, false, false, false] rfl rfl (any_of HT_.out (by kernel_rfl)) (fun _ _ _ h => h) (Or.inl ⟨by rfl, ?_⟩) ?_ ?_
                      rotate_left
                      · intro w'
                        go_simp
                        with_reducible rfl
                      rotate_left
                      · simp only [Act.put, List.setIfInBounds_toArray, List.set_cons_zero, List.set_cons_succ, i64_w, i32_w]
                        rfl
                      refine pure_ (i := 13) (N := some 57) (v := ?_) (a' := ?_) #[true, true, true, true, false, true, true, true, true, true, true, false, true, true, false, false, false, false, false] rfl rfl (any_of HT_.out (by kernel_rfl)) (fun _ _ _ h => h) (Or.inl ⟨by rfl, ?_⟩) ?_ ?_
                      rotate_left
                      · intro w'
                        go_simp
                        with_reducible rfl
                      rotate_left
                      · simp only [Act.put, List.setIfInBounds_toArray, List.set_cons_zero, List.set_cons_succ, i64_w, i32_w]
                        rfl
                      refine pure_ (i := 14) (N := some 58) (v := ?_) (a' := ?_) #[true, true, true, true, false, true, true, true, true, true, true, false, true, true, true, false, false, false, false] rfl rfl (any_of HT_.out (by kernel_rfl)) (fun _ _ _ h => h) (Or.inl ⟨by rfl, ?_⟩) ?_ ?_
                      rotate_left
                      · intro w'
                        go_simp
                        with_reducible rfl
                      rotate_left
                      · simp only [Act.put, List.setIfInBounds_toArray, List.set_cons_zero, List.set_cons_succ, i64_w, i32_w]
                        rfl
                      refine pure_ (i := 15) (N := some 59) (v := ?_) (a' := ?_) #[true, true, true, true, false, true, true, true, true, true, true, false, true, true, true, true, false, false, false] rfl rfl (any_of HT_.out (by kernel_rfl)) (fun _ _ _ h => h) (Or.inl ⟨by rfl, ?_⟩) ?_ ?_
                      rotate_left
                      · intro w'
                        go_simp
                        with_reducible rfl
                      rotate_left
                      · simp only [Act.put, List.setIfInBounds_toArray, List.set_cons_zero, List.set_cons_succ, i64_w, i32_w]
                        rfl
                      refine pure_ (i := 16) (N := some 60) (v := ?_) (a' := ?_) #[true, true, true, true, false, true, true, true, true, true, true, false, true, true, true, true, true, false, false] rfl rfl (any_of HT_.out (by kernel_rfl)) (fun _ _ _ h => h) (Or.inl ⟨by rfl, ?_⟩) ?_ ?_
                      rotate_left
                      · intro w'
                        go_simp
                        with_reducible rfl
                      rotate_left
                      · simp only [Act.put, List.setIfInBounds_toArray, List.set_cons_zero, List.set_cons_succ, i64_w, i32_w]
                        rfl
                      refine one_ (i := 4) (N := some 48) #[true, true, true, true, true, true, true, true, true, true, true, false, true, true, true, true, true, false, false] rfl rfl (one_of HT_.out (by kernel_rfl)) (by decide) (fun K hK => ?_)
                      refine goes_ Try.func11 (by kernel_rfl) rfl #[.int .u32 a0, .string (t103.extract 0 ((ji8) : Int).toNat)] (by rfl) rfl rfl (by (try simp only [List.map_toArray, List.map_cons, List.map_nil]); first | done | (simp only [hji8]; rfl) | rfl | (simp only [List.length_drop, List.length_take]; rfl)) ?_
                      with_reducible refine (crc_More.calls a0 (t103.extract 0 ((ji8) : Int).toNat) t104 _ A11.out).mono ?_
                      rintro e w40 ⟨rfl, hb⟩
                      refine ⟨_, rfl, ?_⟩
                      have n0_ := Aside0.mk (below_step (by repeat (first | (with_reducible first | exact HB.out | apply below_alloc | apply pw_below_drewN | apply below_drew1) | exact HB.out)) hb)
                      clear HB
                      have HB := n0_
                      clear n0_
                      (try clear hb)
                      (try clear hb2)
                      (try clear hk)
                      (try clear hi)
                      refine hK.out _ _ trivial (fun hHeld => ?_)
                      clear hK K
                      refine norm_ (a' := ?_) ?_ ?_
                      rotate_left
                      · show Act.put _ (some 48) _ = _
                        simp only [Act.put, List.setIfInBounds_toArray, List.set_cons_zero, List.set_cons_succ, i64_w, i32_w]
                        rfl
                      refine one_ (i := 11) (N := some 55) #[true, true, true, true, true, true, true, true, true, true, true, true, true, true, true, true, true, false, false] rfl rfl (one_of HT_.out (by kernel_rfl)) (by decide) (fun K hK => ?_)
                      refine goes_ Try.func11 (by kernel_rfl) rfl #[.int .u32 t104, .string (t103.extract ((ji8) : Int).toNat ((ji16) : Int).toNat)] (by rfl) rfl rfl (by (try simp only [List.map_toArray, List.map_cons, List.map_nil]); first | done | (simp only [hji16, hji8]; rfl) | rfl | (simp only [List.length_drop, List.length_take]; rfl)) ?_
                      with_reducible refine (crc_More.calls t104 (t103.extract ((ji8) : Int).toNat ((ji16) : Int).toNat) t105 _ A15.out).mono ?_
                      rintro e w41 ⟨rfl, hb⟩
                      refine ⟨_, rfl, ?_⟩
                      have n0_ := Aside0.mk (below_step (by repeat (first | (with_reducible first | exact HB.out | apply below_alloc | apply pw_below_drewN | apply below_drew1) | exact HB.out)) hb)
                      clear HB
                      have HB := n0_
                      clear n0_
                      (try clear hb)
                      (try clear hb2)
                      (try clear hk)
                      (try clear hi)
                      refine hK.out _ _ trivial (fun hHeld => ?_)
                      clear hK K
                      refine norm_ (a' := ?_) ?_ ?_
                      rotate_left
                      · show Act.put _ (some 55) _ = _
                        simp only [Act.put, List.setIfInBounds_toArray, List.set_cons_zero, List.set_cons_succ, i64_w, i32_w]
                        rfl
                      refine one_ (i := 17) (N := some 61) #[true, true, true, true, true, true, true, true, true, true, true, true, true, true, true, true, true, true, false] rfl rfl (one_of HT_.out (by kernel_rfl)) (by decide) (fun K hK => ?_)
                      refine goes_ Try.func11 (by kernel_rfl) rfl #[.int .u32 t105, .string (t103.extract ((ji16) : Int).toNat t103.size)] (by rfl) rfl rfl (by (try simp only [List.map_toArray, List.map_cons, List.map_nil]); first | done | (simp only [hji16]; rfl) | rfl | (simp only [List.length_drop, List.length_take]; rfl)) ?_
                      with_reducible refine (crc_More.calls t105 (t103.extract ((ji16) : Int).toNat t103.size) t106 _ A19.out).mono ?_
                      rintro e w42 ⟨rfl, hb⟩
                      refine ⟨_, rfl, ?_⟩
                      have n0_ := Aside0.mk (below_step (by repeat (first | (with_reducible first | exact HB.out | apply below_alloc | apply pw_below_drewN | apply below_drew1) | exact HB.out)) hb)
                      clear HB
                      have HB := n0_
                      clear n0_
                      (try clear hb)
                      (try clear hb2)
                      (try clear hk)
                      (try clear hi)
                      refine hK.out _ _ trivial (fun hHeld => ?_)
                      clear hK K
                      refine norm_ (a' := ?_) ?_ ?_
                      rotate_left
                      · show Act.put _ (some 61) _ = _
                        simp only [Act.put, List.setIfInBounds_toArray, List.set_cons_zero, List.set_cons_succ, i64_w, i32_w]
                        rfl
                      refine pure_ (i := 18) (N := some 9) (v := ?_) (a' := ?_) #[true, true, true, true, true, true, true, true, true, true, true, true, true, true, true, true, true, true, true] rfl rfl (any_of HT_.out (by kernel_rfl)) (fun _ _ _ h => h) (Or.inl ⟨by rfl, ?_⟩) ?_ ?_
                      rotate_left
                      · intro w'
                        go_simp
                        with_reducible rfl
                      rotate_left
                      · simp only [Act.put, List.setIfInBounds_toArray, List.set_cons_zero, List.set_cons_succ, i64_w, i32_w]
                        rfl
                      refine done_ (done_of HT_.out (by kernel_rfl)) ?_
                      try go_wp2_with (first | ((with_reducible refine gate_callee (f := 12) rfl ?_); refine goesL_ (some 62) rfl rfl Try.func12 (by kernel_rfl) rfl #[] rfl (by (try simp only [List.map_toArray, List.map_cons, List.map_nil]); first | done | rfl | (simp only [List.length_drop, List.length_take]; rfl)) ?_; (with_reducible refine (downpourlaw10_alive.calls  true _ A20.out).mono ?_); rintro e w43 ⟨rfl, hb⟩; refine ⟨_, rfl, ?_⟩; have n0_ := Aside0.mk (below_step (by repeat (first | (with_reducible first | exact HB.out | apply below_alloc | apply pw_below_drewN | apply below_drew1) | exact HB.out)) hb); clear HB; have HB := n0_; clear n0_; (try clear hb); (try clear hb2); (try clear hk); (try clear hi)) | (go_at_call 11; (with_reducible refine (crc_More.calls a0 t103 t108 _ A22.out).mono ?_); rintro e w44 ⟨rfl, hb⟩; have n0_ := Aside0.mk (below_step (by repeat (first | (with_reducible first | exact HB.out | apply below_alloc | apply pw_below_drewN | apply below_drew1) | exact HB.out)) hb); clear HB; have HB := n0_; clear n0_; (try clear hb); (try clear hb2); (try clear hk); (try clear hi)) | (go_at_call 11; (with_reducible refine (crc_More.calls a0 (⟨#[]⟩ : ByteArray) t109 _ A24.out).mono ?_); rintro e w45 ⟨rfl, hb⟩; have n0_ := Aside0.mk (below_step (by repeat (first | (with_reducible first | exact HB.out | apply below_alloc | apply pw_below_drewN | apply below_drew1) | exact HB.out)) hb); clear HB; have HB := n0_; clear n0_; (try clear hb); (try clear hb2); (try clear hk); (try clear hi)))
                      go_ret
                      exact ⟨by first | rfl | (simp [errW_none, errW_some] <;> rfl) | (simp only [← hji8, ← hji16]; first | rfl | (simp [errW_none, errW_some] <;> rfl)) | (simp [*, errW_none, errW_some] <;> rfl), by repeat (first | (with_reducible first | exact HB.out | apply below_alloc | apply pw_below_drewN | apply below_drew1) | exact HB.out)⟩
                  · rw [if_neg c23] at H
                    have c23b0 : (t106 == t108) = false := beq_eq_false_iff_ne.mpr c23
                    have c23b1 : (t106 != t108) = true := bne_iff_ne.mpr c23
                    obtain rfl := Option.some.inj H
                    try have c6z := beq_eq_false_iff_ne.mp c6b0
                    try have c7z := beq_eq_false_iff_ne.mp c7b0
                    go_enter Try.func3, Try.ntmps3
                    try go_wp2_with (first | ((with_reducible refine gate_callee (f := 10) rfl ?_); refine goesL_ (some 11) rfl rfl Try.func10 (by kernel_rfl) rfl #[.string a1] rfl (by (try simp only [List.map_toArray, List.map_cons, List.map_nil]); first | done | rfl | (simp only [List.length_drop, List.length_take]; rfl)) ?_; (with_reducible refine (downpourlaw10_cut.calls a1 t103 _ A5.out).mono ?_); rintro e w46 ⟨rfl, hb⟩; refine ⟨_, rfl, ?_⟩; have n0_ := Aside0.mk (below_step (by repeat (first | (with_reducible first | exact HB.out | apply below_alloc | apply pw_below_drewN | apply below_drew1) | exact HB.out)) hb); clear HB; have HB := n0_; clear n0_; (try clear hb); (try clear hb2); (try clear hk); (try clear hi)))
                    have n0_ := Aside0.mk (below_drew1 HB.out)
                    clear HB
                    have HB := n0_
                    clear n0_
                    refine start_ (n := 19) (S := fun w' => True) (ds := []) #[false, false, false, false, false, false, false, false, false, false, false, false, false, false, false, false, false, false, false] (by kernel_rfl) rfl rfl trivial (fun hHeld => ?_); refine with_tabW downpourlaw10_CrcParts.tab4 downpourlaw10_CrcParts.bits4 (fun HT_ HW_ => ?_)
                    generalize w46.drew = w47 at HB hHeld ⊢
                    refine pure_ (i := 0) (N := some 44) (v := ?_) (a' := ?_) #[true, false, false, false, false, false, false, false, false, false, false, false, false, false, false, false, false, false, false] rfl rfl (any_of HT_.out (by kernel_rfl)) (fun _ _ _ h => h) (Or.inl ⟨by rfl, ?_⟩) ?_ ?_
                    rotate_left
                    · intro w'
                      go_simp
                      with_reducible rfl
                    rotate_left
                    · simp only [Act.put, List.setIfInBounds_toArray, List.set_cons_zero, List.set_cons_succ, i64_w, i32_w]
                      rfl
                    refine pure_ (i := 1) (N := some 45) (v := ?_) (a' := ?_) #[true, true, false, false, false, false, false, false, false, false, false, false, false, false, false, false, false, false, false] rfl rfl (any_of HT_.out (by kernel_rfl)) (fun _ _ _ h => h) (Or.inl ⟨by rfl, ?_⟩) ?_ ?_
                    rotate_left
                    · intro w'
                      go_simp
                      with_reducible rfl
                    rotate_left
                    · simp only [Act.put, List.setIfInBounds_toArray, List.set_cons_zero, List.set_cons_succ, i64_w, i32_w]
                      rfl
                    refine pure_ (i := 2) (N := some 46) (v := ?_) (a' := ?_) #[true, true, true, false, false, false, false, false, false, false, false, false, false, false, false, false, false, false, false] rfl rfl (any_of HT_.out (by kernel_rfl)) (fun _ _ _ h => h) (Or.inl ⟨by rfl, ?_⟩) ?_ ?_
                    rotate_left
                    · intro w'
                      go_simp
                      with_reducible rfl
                    rotate_left
                    · simp only [Act.put, List.setIfInBounds_toArray, List.set_cons_zero, List.set_cons_succ, i64_w, i32_w]
                      rfl
                    refine pure_ (i := 3) (N := some 47) (v := ?_) (a' := ?_) #[true, true, true, true, false, false, false, false, false, false, false, false, false, false, false, false, false, false, false] rfl rfl (any_of HT_.out (by kernel_rfl)) (fun _ _ _ h => h) (Or.inl ⟨by rfl, ?_⟩) ?_ ?_
                    rotate_left
                    · intro w'
                      go_simp
                      with_reducible rfl
                    rotate_left
                    · simp only [Act.put, List.setIfInBounds_toArray, List.set_cons_zero, List.set_cons_succ, i64_w, i32_w]
                      rfl
                    refine pure_ (i := 5) (N := some 49) (v := ?_) (a' := ?_) #[true, true, true, true, false, true, false, false, false, false, false, false, false, false, false, false, false, false, false] rfl rfl (any_of HT_.out (by kernel_rfl)) (fun _ _ _ h => h) (Or.inl ⟨by rfl, ?_⟩) ?_ ?_
                    rotate_left
                    · intro w'
                      go_simp
                      with_reducible rfl
                    rotate_left
                    · simp only [Act.put, List.setIfInBounds_toArray, List.set_cons_zero, List.set_cons_succ, i64_w, i32_w]
                      rfl
                    refine pure_ (i := 6) (N := some 50) (v := ?_) (a' := ?_) #[true, true, true, true, false, true, true, false, false, false, false, false, false, false, false, false, false, false, false] rfl rfl (any_of HT_.out (by kernel_rfl)) (fun _ _ _ h => h) (Or.inl ⟨by rfl, ?_⟩) ?_ ?_
                    rotate_left
                    · intro w'
                      go_simp
                      with_reducible rfl
                    rotate_left
                    · simp only [Act.put, List.setIfInBounds_toArray, List.set_cons_zero, List.set_cons_succ, i64_w, i32_w]
                      rfl
                    refine pure_ (i := 7) (N := some 51) (v := ?_) (a' := ?_) #[true, true, true, true, false, true, true, true, false, false, false, false, false, false, false, false, false, false, false] rfl rfl (any_of HT_.out (by kernel_rfl)) (fun _ _ _ h => h) (Or.inl ⟨by rfl, ?_⟩) ?_ ?_
                    rotate_left
                    · intro w'
                      go_simp
                      with_reducible rfl
                    rotate_left
                    · simp only [Act.put, List.setIfInBounds_toArray, List.set_cons_zero, List.set_cons_succ, i64_w, i32_w]
                      rfl
                    refine pure_ (i := 8) (N := some 52) (v := ?_) (a' := ?_) #[true, true, true, true, false, true, true, true, true, false, false, false, false, false, false, false, false, false, false] rfl rfl (any_of HT_.out (by kernel_rfl)) (fun _ _ _ h => h) (Or.inl ⟨by rfl, ?_⟩) ?_ ?_
                    rotate_left
                    · intro w'
                      go_simp
                      with_reducible rfl
                    rotate_left
                    · simp only [Act.put, List.setIfInBounds_toArray, List.set_cons_zero, List.set_cons_succ, i64_w, i32_w]
                      rfl
                    refine pure_ (i := 9) (N := some 53) (v := ?_) (a' := ?_) #[true, true, true, true, false, true, true, true, true, true, false, false, false, false, false, false, false, false, false] rfl rfl (any_of HT_.out (by kernel_rfl)) (fun _ _ _ h => h) (Or.inl ⟨by rfl, ?_⟩) ?_ ?_
                    rotate_left
                    · intro w'
                      go_simp
                      with_reducible rfl
                    rotate_left
                    · simp only [Act.put, List.setIfInBounds_toArray, List.set_cons_zero, List.set_cons_succ, i64_w, i32_w]
                      rfl
                    refine pure_ (i := 10) (N := some 54) (v := ?_) (a' := ?_) #[true, true, true, true, false, true, true, true, true, true, true, false, false, false, false, false, false, false, false] rfl rfl (any_of HT_.out (by kernel_rfl)) (fun _ _ _ h => h) (Or.inl ⟨by rfl, ?_⟩) ?_ ?_
                    rotate_left
                    · intro w'
                      go_simp
                      with_reducible rfl
                    rotate_left
                    · simp only [Act.put, List.setIfInBounds_toArray, List.set_cons_zero, List.set_cons_succ, i64_w, i32_w]
                      rfl
                    refine pure_ (i := 12) (N := some 56) (v := ?_) (a' := ?_) #[true, true, true, true, false, true, true, true, true, true, true, false, true, false, false, false, false, false, false] rfl rfl (any_of HT_.out (by kernel_rfl)) (fun _ _ _ h => h) (Or.inl ⟨by rfl, ?_⟩) ?_ ?_
                    rotate_left
                    · intro w'
                      go_simp
                      with_reducible rfl
                    rotate_left
                    · simp only [Act.put, List.setIfInBounds_toArray, List.set_cons_zero, List.set_cons_succ, i64_w, i32_w]
                      rfl
                    refine pure_ (i := 13) (N := some 57) (v := ?_) (a' := ?_) #[true, true, true, true, false, true, true, true, true, true, true, false, true, true, false, false, false, false, false] rfl rfl (any_of HT_.out (by kernel_rfl)) (fun _ _ _ h => h) (Or.inl ⟨by rfl, ?_⟩) ?_ ?_
                    rotate_left
                    · intro w'
                      go_simp
                      with_reducible rfl
                    rotate_left
                    · simp only [Act.put, List.setIfInBounds_toArray, List.set_cons_zero, List.set_cons_succ, i64_w, i32_w]
                      rfl
                    refine pure_ (i := 14) (N := some 58) (v := ?_) (a' := ?_) #[true, true, true, true, false, true, true, true, true, true, true, false, true, true, true, false, false, false, false] rfl rfl (any_of HT_.out (by kernel_rfl)) (fun _ _ _ h => h) (Or.inl ⟨by rfl, ?_⟩) ?_ ?_
                    rotate_left
                    · intro w'
                      go_simp
                      with_reducible rfl
                    rotate_left
                    · simp only [Act.put, List.setIfInBounds_toArray, List.set_cons_zero, List.set_cons_succ, i64_w, i32_w]
                      rfl
                    refine pure_ (i := 15) (N := some 59) (v := ?_) (a' := ?_) #[true, true, true, true, false, true, true, true, true, true, true, false, true, true, true, true, false, false, false] rfl rfl (any_of HT_.out (by kernel_rfl)) (fun _ _ _ h => h) (Or.inl ⟨by rfl, ?_⟩) ?_ ?_
                    rotate_left
                    · intro w'
                      go_simp
                      with_reducible rfl
                    rotate_left
                    · simp only [Act.put, List.setIfInBounds_toArray, List.set_cons_zero, List.set_cons_succ, i64_w, i32_w]
                      rfl
                    refine pure_ (i := 16) (N := some 60) (v := ?_) (a' := ?_) #[true, true, true, true, false, true, true, true, true, true, true, false, true, true, true, true, true, false, false] rfl rfl (any_of HT_.out (by kernel_rfl)) (fun _ _ _ h => h) (Or.inl ⟨by rfl, ?_⟩) ?_ ?_
                    rotate_left
                    · intro w'
                      go_simp
                      with_reducible rfl
                    rotate_left
                    · simp only [Act.put, List.setIfInBounds_toArray, List.set_cons_zero, List.set_cons_succ, i64_w, i32_w]
                      rfl
                    refine one_ (i := 4) (N := some 48) #[true, true, true, true, true, true, true, true, true, true, true, false, true, true, true, true, true, false, false] rfl rfl (one_of HT_.out (by kernel_rfl)) (by decide) (fun K hK => ?_)
                    refine goes_ Try.func11 (by kernel_rfl) rfl #[.int .u32 a0, .string (t103.extract 0 ((ji8) : Int).toNat)] (by rfl) rfl rfl (by (try simp only [List.map_toArray, List.map_cons, List.map_nil]); first | done | (simp only [hji8]; rfl) | rfl | (simp only [List.length_drop, List.length_take]; rfl)) ?_
                    with_reducible refine (crc_More.calls a0 (t103.extract 0 ((ji8) : Int).toNat) t104 _ A11.out).mono ?_
                    rintro e w48 ⟨rfl, hb⟩
                    refine ⟨_, rfl, ?_⟩
                    have n0_ := Aside0.mk (below_step (by repeat (first | (with_reducible first | exact HB.out | apply below_alloc | apply pw_below_drewN | apply below_drew1) | exact HB.out)) hb)
                    clear HB
                    have HB := n0_
                    clear n0_
                    (try clear hb)
                    (try clear hb2)
                    (try clear hk)
                    (try clear hi)
                    refine hK.out _ _ trivial (fun hHeld => ?_)
                    clear hK K
                    refine norm_ (a' := ?_) ?_ ?_
                    rotate_left
                    · show Act.put _ (some 48) _ = _
                      simp only [Act.put, List.setIfInBounds_toArray, List.set_cons_zero, List.set_cons_succ, i64_w, i32_w]
                      rfl
                    refine one_ (i := 11) (N := some 55) #[true, true, true, true, true, true, true, true, true, true, true, true, true, true, true, true, true, false, false] rfl rfl (one_of HT_.out (by kernel_rfl)) (by decide) (fun K hK => ?_)
                    refine goes_ Try.func11 (by kernel_rfl) rfl #[.int .u32 t104, .string (t103.extract ((ji8) : Int).toNat ((ji16) : Int).toNat)] (by rfl) rfl rfl (by (try simp only [List.map_toArray, List.map_cons, List.map_nil]); first | done | (simp only [hji16, hji8]; rfl) | rfl | (simp only [List.length_drop, List.length_take]; rfl)) ?_
                    with_reducible refine (crc_More.calls t104 (t103.extract ((ji8) : Int).toNat ((ji16) : Int).toNat) t105 _ A15.out).mono ?_
                    rintro e w49 ⟨rfl, hb⟩
                    refine ⟨_, rfl, ?_⟩
                    have n0_ := Aside0.mk (below_step (by repeat (first | (with_reducible first | exact HB.out | apply below_alloc | apply pw_below_drewN | apply below_drew1) | exact HB.out)) hb)
                    clear HB
                    have HB := n0_
                    clear n0_
                    (try clear hb)
                    (try clear hb2)
                    (try clear hk)
                    (try clear hi)
                    refine hK.out _ _ trivial (fun hHeld => ?_)
                    clear hK K
                    refine norm_ (a' := ?_) ?_ ?_
                    rotate_left
                    · show Act.put _ (some 55) _ = _
                      simp only [Act.put, List.setIfInBounds_toArray, List.set_cons_zero, List.set_cons_succ, i64_w, i32_w]
                      rfl
                    refine one_ (i := 17) (N := some 61) #[true, true, true, true, true, true, true, true, true, true, true, true, true, true, true, true, true, true, false] rfl rfl (one_of HT_.out (by kernel_rfl)) (by decide) (fun K hK => ?_)
                    refine goes_ Try.func11 (by kernel_rfl) rfl #[.int .u32 t105, .string (t103.extract ((ji16) : Int).toNat t103.size)] (by rfl) rfl rfl (by (try simp only [List.map_toArray, List.map_cons, List.map_nil]); first | done | (simp only [hji16]; rfl) | rfl | (simp only [List.length_drop, List.length_take]; rfl)) ?_
                    with_reducible refine (crc_More.calls t105 (t103.extract ((ji16) : Int).toNat t103.size) t106 _ A19.out).mono ?_
                    rintro e w50 ⟨rfl, hb⟩
                    refine ⟨_, rfl, ?_⟩
                    have n0_ := Aside0.mk (below_step (by repeat (first | (with_reducible first | exact HB.out | apply below_alloc | apply pw_below_drewN | apply below_drew1) | exact HB.out)) hb)
                    clear HB
                    have HB := n0_
                    clear n0_
                    (try clear hb)
                    (try clear hb2)
                    (try clear hk)
                    (try clear hi)
                    refine hK.out _ _ trivial (fun hHeld => ?_)
                    clear hK K
                    refine norm_ (a' := ?_) ?_ ?_
                    rotate_left
                    · show Act.put _ (some 61) _ = _
                      simp only [Act.put, List.setIfInBounds_toArray, List.set_cons_zero, List.set_cons_succ, i64_w, i32_w]
                      rfl
                    refine pure_ (i := 18) (N := some 9) (v := ?_) (a' := ?_) #[true, true, true, true, true, true, true, true, true, true, true, true, true, true, true, true, true, true, true] rfl rfl (any_of HT_.out (by kernel_rfl)) (fun _ _ _ h => h) (Or.inl ⟨by rfl, ?_⟩) ?_ ?_
                    rotate_left
                    · intro w'
                      go_simp
                      with_reducible rfl
                    rotate_left
                    · simp only [Act.put, List.setIfInBounds_toArray, List.set_cons_zero, List.set_cons_succ, i64_w, i32_w]
                      rfl
                    refine done_ (done_of HT_.out (by kernel_rfl)) ?_
                    try go_wp2_with (first | ((with_reducible refine gate_callee (f := 12) rfl ?_); refine goesL_ (some 62) rfl rfl Try.func12 (by kernel_rfl) rfl #[] rfl (by (try simp only [List.map_toArray, List.map_cons, List.map_nil]); first | done | rfl | (simp only [List.length_drop, List.length_take]; rfl)) ?_; (with_reducible refine (downpourlaw10_alive.calls  true _ A20.out).mono ?_); rintro e w51 ⟨rfl, hb⟩; refine ⟨_, rfl, ?_⟩; have n0_ := Aside0.mk (below_step (by repeat (first | (with_reducible first | exact HB.out | apply below_alloc | apply pw_below_drewN | apply below_drew1) | exact HB.out)) hb); clear HB; have HB := n0_; clear n0_; (try clear hb); (try clear hb2); (try clear hk); (try clear hi)) | (go_at_call 11; (with_reducible refine (crc_More.calls a0 t103 t108 _ A22.out).mono ?_); rintro e w52 ⟨rfl, hb⟩; have n0_ := Aside0.mk (below_step (by repeat (first | (with_reducible first | exact HB.out | apply below_alloc | apply pw_below_drewN | apply below_drew1) | exact HB.out)) hb); clear HB; have HB := n0_; clear n0_; (try clear hb); (try clear hb2); (try clear hk); (try clear hi)))
                    go_ret
                    exact ⟨by first | rfl | (simp [errW_none, errW_some] <;> rfl) | (simp only [← hji8, ← hji16]; first | rfl | (simp [errW_none, errW_some] <;> rfl)) | (simp [*, errW_none, errW_some] <;> rfl), by repeat (first | (with_reducible first | exact HB.out | apply below_alloc | apply pw_below_drewN | apply below_drew1) | exact HB.out)⟩
                · replace c21 := Bool.eq_false_iff.mpr c21
                  subst c21
                  have H1 : (some false) = some r := by rw [if_neg (show ¬ (false = true) by decide)] at H; exact H
                  clear H
                  have H := H1
                  clear H1
                  obtain rfl := Option.some.inj H
                  try have c6z := beq_eq_false_iff_ne.mp c6b0
                  try have c7z := beq_eq_false_iff_ne.mp c7b0
                  go_enter Try.func3, Try.ntmps3
                  try go_wp2_with (first | ((with_reducible refine gate_callee (f := 10) rfl ?_); refine goesL_ (some 11) rfl rfl Try.func10 (by kernel_rfl) rfl #[.string a1] rfl (by (try simp only [List.map_toArray, List.map_cons, List.map_nil]); first | done | rfl | (simp only [List.length_drop, List.length_take]; rfl)) ?_; (with_reducible refine (downpourlaw10_cut.calls a1 t103 _ A5.out).mono ?_); rintro e w53 ⟨rfl, hb⟩; refine ⟨_, rfl, ?_⟩; have n0_ := Aside0.mk (below_step (by repeat (first | (with_reducible first | exact HB.out | apply below_alloc | apply pw_below_drewN | apply below_drew1) | exact HB.out)) hb); clear HB; have HB := n0_; clear n0_; (try clear hb); (try clear hb2); (try clear hk); (try clear hi)))
                  have n0_ := Aside0.mk (below_drew1 HB.out)
                  clear HB
                  have HB := n0_
                  clear n0_
                  refine start_ (n := 19) (S := fun w' => True) (ds := []) #[false, false, false, false, false, false, false, false, false, false, false, false, false, false, false, false, false, false, false] (by kernel_rfl) rfl rfl trivial (fun hHeld => ?_); refine with_tabW downpourlaw10_CrcParts.tab4 downpourlaw10_CrcParts.bits4 (fun HT_ HW_ => ?_)
                  generalize w53.drew = w54 at HB hHeld ⊢
                  refine pure_ (i := 0) (N := some 44) (v := ?_) (a' := ?_) #[true, false, false, false, false, false, false, false, false, false, false, false, false, false, false, false, false, false, false] rfl rfl (any_of HT_.out (by kernel_rfl)) (fun _ _ _ h => h) (Or.inl ⟨by rfl, ?_⟩) ?_ ?_
                  rotate_left
                  · intro w'
                    go_simp
                    with_reducible rfl
                  rotate_left
                  · simp only [Act.put, List.setIfInBounds_toArray, List.set_cons_zero, List.set_cons_succ, i64_w, i32_w]
                    rfl
                  refine pure_ (i := 1) (N := some 45) (v := ?_) (a' := ?_) #[true, true, false, false, false, false, false, false, false, false, false, false, false, false, false, false, false, false, false] rfl rfl (any_of HT_.out (by kernel_rfl)) (fun _ _ _ h => h) (Or.inl ⟨by rfl, ?_⟩) ?_ ?_
                  rotate_left
                  · intro w'
                    go_simp
                    with_reducible rfl
                  rotate_left
                  · simp only [Act.put, List.setIfInBounds_toArray, List.set_cons_zero, List.set_cons_succ, i64_w, i32_w]
                    rfl
                  refine pure_ (i := 2) (N := some 46) (v := ?_) (a' := ?_) #[true, true, true, false, false, false, false, false, false, false, false, false, false, false, false, false, false, false, false] rfl rfl (any_of HT_.out (by kernel_rfl)) (fun _ _ _ h => h) (Or.inl ⟨by rfl, ?_⟩) ?_ ?_
                  rotate_left
                  · intro w'
                    go_simp
                    with_reducible rfl
                  rotate_left
                  · simp only [Act.put, List.setIfInBounds_toArray, List.set_cons_zero, List.set_cons_succ, i64_w, i32_w]
                    rfl
                  refine pure_ (i := 3) (N := some 47) (v := ?_) (a' := ?_) #[true, true, true, true, false, false, false, false, false, false, false, false, false, false, false, false, false, false, false] rfl rfl (any_of HT_.out (by kernel_rfl)) (fun _ _ _ h => h) (Or.inl ⟨by rfl, ?_⟩) ?_ ?_
                  rotate_left
                  · intro w'
                    go_simp
                    with_reducible rfl
                  rotate_left
                  · simp only [Act.put, List.setIfInBounds_toArray, List.set_cons_zero, List.set_cons_succ, i64_w, i32_w]
                    rfl
                  refine pure_ (i := 5) (N := some 49) (v := ?_) (a' := ?_) #[true, true, true, true, false, true, false, false, false, false, false, false, false, false, false, false, false, false, false] rfl rfl (any_of HT_.out (by kernel_rfl)) (fun _ _ _ h => h) (Or.inl ⟨by rfl, ?_⟩) ?_ ?_
                  rotate_left
                  · intro w'
                    go_simp
                    with_reducible rfl
                  rotate_left
                  · simp only [Act.put, List.setIfInBounds_toArray, List.set_cons_zero, List.set_cons_succ, i64_w, i32_w]
                    rfl
                  refine pure_ (i := 6) (N := some 50) (v := ?_) (a' := ?_) #[true, true, true, true, false, true, true, false, false, false, false, false, false, false, false, false, false, false, false] rfl rfl (any_of HT_.out (by kernel_rfl)) (fun _ _ _ h => h) (Or.inl ⟨by rfl, ?_⟩) ?_ ?_
                  rotate_left
                  · intro w'
                    go_simp
                    with_reducible rfl
                  rotate_left
                  · simp only [Act.put, List.setIfInBounds_toArray, List.set_cons_zero, List.set_cons_succ, i64_w, i32_w]
                    rfl
                  refine pure_ (i := 7) (N := some 51) (v := ?_) (a' := ?_) #[true, true, true, true, false, true, true, true, false, false, false, false, false, false, false, false, false, false, false] rfl rfl (any_of HT_.out (by kernel_rfl)) (fun _ _ _ h => h) (Or.inl ⟨by rfl, ?_⟩) ?_ ?_
                  rotate_left
                  · intro w'
                    go_simp
                    with_reducible rfl
                  rotate_left
                  · simp only [Act.put, List.setIfInBounds_toArray, List.set_cons_zero, List.set_cons_succ, i64_w, i32_w]
                    rfl
                  refine pure_ (i := 8) (N := some 52) (v := ?_) (a' := ?_) #[true, true, true, true, false, true, true, true, true, false, false, false, false, false, false, false, false, false, false] rfl rfl (any_of HT_.out (by kernel_rfl)) (fun _ _ _ h => h) (Or.inl ⟨by rfl, ?_⟩) ?_ ?_
                  rotate_left
                  · intro w'
                    go_simp
                    with_reducible rfl
                  rotate_left
                  · simp only [Act.put, List.setIfInBounds_toArray, List.set_cons_zero, List.set_cons_succ, i64_w, i32_w]
                    rfl
                  refine pure_ (i := 9) (N := some 53) (v := ?_) (a' := ?_) #[true, true, true, true, false, true, true, true, true, true, false, false, false, false, false, false, false, false, false] rfl rfl (any_of HT_.out (by kernel_rfl)) (fun _ _ _ h => h) (Or.inl ⟨by rfl, ?_⟩) ?_ ?_
                  rotate_left
                  · intro w'
                    go_simp
                    with_reducible rfl
                  rotate_left
                  · simp only [Act.put, List.setIfInBounds_toArray, List.set_cons_zero, List.set_cons_succ, i64_w, i32_w]
                    rfl
                  refine pure_ (i := 10) (N := some 54) (v := ?_) (a' := ?_) #[true, true, true, true, false, true, true, true, true, true, true, false, false, false, false, false, false, false, false] rfl rfl (any_of HT_.out (by kernel_rfl)) (fun _ _ _ h => h) (Or.inl ⟨by rfl, ?_⟩) ?_ ?_
                  rotate_left
                  · intro w'
                    go_simp
                    with_reducible rfl
                  rotate_left
                  · simp only [Act.put, List.setIfInBounds_toArray, List.set_cons_zero, List.set_cons_succ, i64_w, i32_w]
                    rfl
                  refine pure_ (i := 12) (N := some 56) (v := ?_) (a' := ?_) #[true, true, true, true, false, true, true, true, true, true, true, false, true, false, false, false, false, false, false] rfl rfl (any_of HT_.out (by kernel_rfl)) (fun _ _ _ h => h) (Or.inl ⟨by rfl, ?_⟩) ?_ ?_
                  rotate_left
                  · intro w'
                    go_simp
                    with_reducible rfl
                  rotate_left
                  · simp only [Act.put, List.setIfInBounds_toArray, List.set_cons_zero, List.set_cons_succ, i64_w, i32_w]
                    rfl
                  refine pure_ (i := 13) (N := some 57) (v := ?_) (a' := ?_) #[true, true, true, true, false, true, true, true, true, true, true, false, true, true, false, false, false, false, false] rfl rfl (any_of HT_.out (by kernel_rfl)) (fun _ _ _ h => h) (Or.inl ⟨by rfl, ?_⟩) ?_ ?_
                  rotate_left
                  · intro w'
                    go_simp
                    with_reducible rfl
                  rotate_left
                  · simp only [Act.put, List.setIfInBounds_toArray, List.set_cons_zero, List.set_cons_succ, i64_w, i32_w]
                    rfl
                  refine pure_ (i := 14) (N := some 58) (v := ?_) (a' := ?_) #[true, true, true, true, false, true, true, true, true, true, true, false, true, true, true, false, false, false, false] rfl rfl (any_of HT_.out (by kernel_rfl)) (fun _ _ _ h => h) (Or.inl ⟨by rfl, ?_⟩) ?_ ?_
                  rotate_left
                  · intro w'
                    go_simp
                    with_reducible rfl
                  rotate_left
                  · simp only [Act.put, List.setIfInBounds_toArray, List.set_cons_zero, List.set_cons_succ, i64_w, i32_w]
                    rfl
                  refine pure_ (i := 15) (N := some 59) (v := ?_) (a' := ?_) #[true, true, true, true, false, true, true, true, true, true, true, false, true, true, true, true, false, false, false] rfl rfl (any_of HT_.out (by kernel_rfl)) (fun _ _ _ h => h) (Or.inl ⟨by rfl, ?_⟩) ?_ ?_
                  rotate_left
                  · intro w'
                    go_simp
                    with_reducible rfl
                  rotate_left
                  · simp only [Act.put, List.setIfInBounds_toArray, List.set_cons_zero, List.set_cons_succ, i64_w, i32_w]
                    rfl
                  refine pure_ (i := 16) (N := some 60) (v := ?_) (a' := ?_) #[true, true, true, true, false, true, true, true, true, true, true, false, true, true, true, true, true, false, false] rfl rfl (any_of HT_.out (by kernel_rfl)) (fun _ _ _ h => h) (Or.inl ⟨by rfl, ?_⟩) ?_ ?_
                  rotate_left
                  · intro w'
                    go_simp
                    with_reducible rfl
                  rotate_left
                  · simp only [Act.put, List.setIfInBounds_toArray, List.set_cons_zero, List.set_cons_succ, i64_w, i32_w]
                    rfl
                  refine one_ (i := 4) (N := some 48) #[true, true, true, true, true, true, true, true, true, true, true, false, true, true, true, true, true, false, false] rfl rfl (one_of HT_.out (by kernel_rfl)) (by decide) (fun K hK => ?_)
                  refine goes_ Try.func11 (by kernel_rfl) rfl #[.int .u32 a0, .string (t103.extract 0 ((ji8) : Int).toNat)] (by rfl) rfl rfl (by (try simp only [List.map_toArray, List.map_cons, List.map_nil]); first | done | (simp only [hji8]; rfl) | rfl | (simp only [List.length_drop, List.length_take]; rfl)) ?_
                  with_reducible refine (crc_More.calls a0 (t103.extract 0 ((ji8) : Int).toNat) t104 _ A11.out).mono ?_
                  rintro e w55 ⟨rfl, hb⟩
                  refine ⟨_, rfl, ?_⟩
                  have n0_ := Aside0.mk (below_step (by repeat (first | (with_reducible first | exact HB.out | apply below_alloc | apply pw_below_drewN | apply below_drew1) | exact HB.out)) hb)
                  clear HB
                  have HB := n0_
                  clear n0_
                  (try clear hb)
                  (try clear hb2)
                  (try clear hk)
                  (try clear hi)
                  refine hK.out _ _ trivial (fun hHeld => ?_)
                  clear hK K
                  refine norm_ (a' := ?_) ?_ ?_
                  rotate_left
                  · show Act.put _ (some 48) _ = _
                    simp only [Act.put, List.setIfInBounds_toArray, List.set_cons_zero, List.set_cons_succ, i64_w, i32_w]
                    rfl
                  refine one_ (i := 11) (N := some 55) #[true, true, true, true, true, true, true, true, true, true, true, true, true, true, true, true, true, false, false] rfl rfl (one_of HT_.out (by kernel_rfl)) (by decide) (fun K hK => ?_)
                  refine goes_ Try.func11 (by kernel_rfl) rfl #[.int .u32 t104, .string (t103.extract ((ji8) : Int).toNat ((ji16) : Int).toNat)] (by rfl) rfl rfl (by (try simp only [List.map_toArray, List.map_cons, List.map_nil]); first | done | (simp only [hji16, hji8]; rfl) | rfl | (simp only [List.length_drop, List.length_take]; rfl)) ?_
                  with_reducible refine (crc_More.calls t104 (t103.extract ((ji8) : Int).toNat ((ji16) : Int).toNat) t105 _ A15.out).mono ?_
                  rintro e w56 ⟨rfl, hb⟩
                  refine ⟨_, rfl, ?_⟩
                  have n0_ := Aside0.mk (below_step (by repeat (first | (with_reducible first | exact HB.out | apply below_alloc | apply pw_below_drewN | apply below_drew1) | exact HB.out)) hb)
                  clear HB
                  have HB := n0_
                  clear n0_
                  (try clear hb)
                  (try clear hb2)
                  (try clear hk)
                  (try clear hi)
                  refine hK.out _ _ trivial (fun hHeld => ?_)
                  clear hK K
                  refine norm_ (a' := ?_) ?_ ?_
                  rotate_left
                  · show Act.put _ (some 55) _ = _
                    simp only [Act.put, List.setIfInBounds_toArray, List.set_cons_zero, List.set_cons_succ, i64_w, i32_w]
                    rfl
                  refine one_ (i := 17) (N := some 61) #[true, true, true, true, true, true, true, true, true, true, true, true, true, true, true, true, true, true, false] rfl rfl (one_of HT_.out (by kernel_rfl)) (by decide) (fun K hK => ?_)
                  refine goes_ Try.func11 (by kernel_rfl) rfl #[.int .u32 t105, .string (t103.extract ((ji16) : Int).toNat t103.size)] (by rfl) rfl rfl (by (try simp only [List.map_toArray, List.map_cons, List.map_nil]); first | done | (simp only [hji16]; rfl) | rfl | (simp only [List.length_drop, List.length_take]; rfl)) ?_
                  with_reducible refine (crc_More.calls t105 (t103.extract ((ji16) : Int).toNat t103.size) t106 _ A19.out).mono ?_
                  rintro e w57 ⟨rfl, hb⟩
                  refine ⟨_, rfl, ?_⟩
                  have n0_ := Aside0.mk (below_step (by repeat (first | (with_reducible first | exact HB.out | apply below_alloc | apply pw_below_drewN | apply below_drew1) | exact HB.out)) hb)
                  clear HB
                  have HB := n0_
                  clear n0_
                  (try clear hb)
                  (try clear hb2)
                  (try clear hk)
                  (try clear hi)
                  refine hK.out _ _ trivial (fun hHeld => ?_)
                  clear hK K
                  refine norm_ (a' := ?_) ?_ ?_
                  rotate_left
                  · show Act.put _ (some 61) _ = _
                    simp only [Act.put, List.setIfInBounds_toArray, List.set_cons_zero, List.set_cons_succ, i64_w, i32_w]
                    rfl
                  refine pure_ (i := 18) (N := some 9) (v := ?_) (a' := ?_) #[true, true, true, true, true, true, true, true, true, true, true, true, true, true, true, true, true, true, true] rfl rfl (any_of HT_.out (by kernel_rfl)) (fun _ _ _ h => h) (Or.inl ⟨by rfl, ?_⟩) ?_ ?_
                  rotate_left
                  · intro w'
                    go_simp
                    with_reducible rfl
                  rotate_left
                  · simp only [Act.put, List.setIfInBounds_toArray, List.set_cons_zero, List.set_cons_succ, i64_w, i32_w]
                    rfl
                  refine done_ (done_of HT_.out (by kernel_rfl)) ?_
                  try go_wp2_with (first | ((with_reducible refine gate_callee (f := 12) rfl ?_); refine goesL_ (some 62) rfl rfl Try.func12 (by kernel_rfl) rfl #[] rfl (by (try simp only [List.map_toArray, List.map_cons, List.map_nil]); first | done | rfl | (simp only [List.length_drop, List.length_take]; rfl)) ?_; (with_reducible refine (downpourlaw10_alive.calls  false _ A20.out).mono ?_); rintro e w58 ⟨rfl, hb⟩; refine ⟨_, rfl, ?_⟩; have n0_ := Aside0.mk (below_step (by repeat (first | (with_reducible first | exact HB.out | apply below_alloc | apply pw_below_drewN | apply below_drew1) | exact HB.out)) hb); clear HB; have HB := n0_; clear n0_; (try clear hb); (try clear hb2); (try clear hk); (try clear hi)))
                  go_ret
                  exact ⟨by first | rfl | (simp [errW_none, errW_some] <;> rfl) | (simp only [← hji8, ← hji16]; first | rfl | (simp [errW_none, errW_some] <;> rfl)) | (simp [*, errW_none, errW_some] <;> rfl), by repeat (first | (with_reducible first | exact HB.out | apply below_alloc | apply pw_below_drewN | apply below_drew1) | exact HB.out)⟩
              · rw [if_neg c17] at H
                exact absurd H (by simp)
            · rw [if_neg c14] at H
              exact absurd H (by simp)
          · rw [if_neg c13] at H
            exact absurd H (by simp)
        · rw [if_neg c10] at H
          exact absurd H (by simp)
      · rw [if_neg c9] at H
        exact absurd H (by simp)

/-- THE ONE PURE STATEMENT of downpourlaw10_CrcParts: yours. -/
def downpourlaw10_CrcParts.Pure : Prop := ∀ (a0 : Int) (a1 : ByteArray) (a2 : Int) (a3 : Int), (Lit.int .u32 a0).wf = true → a1.size ≤ 140737488351232 → (Lit.int .i64 a2).wf = true → (Lit.int .i64 a3).wf = true → downpourlaw10_CrcParts.f a0 a1 a2 a3 = some true
theorem downpourlaw10_CrcParts.walk (P : downpourlaw10_CrcParts.Pure) (a0 : Int) (a1 : ByteArray) (a2 : Int) (a3 : Int) (w : World) (w0 : (Lit.int .u32 a0).wf = true) (w1 : a1.size ≤ 140737488351232) (w2 : (Lit.int .i64 a2).wf = true) (w3 : (Lit.int .i64 a3).wf = true) :
    Calls Try.prog 3 #[.int .u32 a0, .string a1, .int .i64 a2, .int .i64 a3] w fun e w' => e = .returned (.bool true) ∧ Below w.heap.size w w' := by
  have h := P a0 a1 a2 a3 w0 w1 w2 w3
  refine (downpourlaw10_CrcParts.calls a0 a1 a2 a3 true w h).mono ?_
  rintro e w' ⟨rfl, hd⟩
  exact ⟨rfl, hd⟩

end Go.Proofs.Ytfbngnplpoepjaa.P

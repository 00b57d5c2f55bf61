/-
  crc.table and crc.More, walked by hand: More answers what 'crc_More.f' tells, a plain function; a text of up to 2^63 - 1 bytes.
-/
import Derived.Test.YtfbngnplpoepjaaProg
import Derived.Below
import Derived.Deep.Draws
import Derived.Deep.AppendLies
import Derived.Maps.AppendAt
import Derived.OwnWalk
import Derived.Laws.BytesArg
import Derived.Laws.MakeOwn
import Derived.Laws.OwnMore
import Derived.Deep.OwnRows
import Derived.Tactics
import Derived.Lib.ConvBytes
import Derived.Laws.Slices
import Derived.WalkKit
import Derived.KernelRfl
import Derived.RowKit3
import Derived.Deep.LoopGhost
import Derived.Deep.QuietTactic
import Derived.BigQuiet
import Derived.WideLaws
import Derived.Deep.DeepCutAuto
import Derived.Deep.CutBlock
import Derived.Deep.RegionHeld3
import Derived.Laws.Rows
import Derived.Lib.AppendStr
import Derived.ArgAppend
import Derived.Laws.IdiomCopy
import Derived.OrdersHeld
import Derived.Laws.BitsLemmas
import Derived.RowKit
import Derived.Test.YtfbngnplpoepjaaWWords
import Derived.Test.YtfbngnplpoepjaaWLast
import Derived.Test.YtfbngnplpoepjaaWTab
import Derived.Test.YtfbngnplpoepjaaWFour
import Derived.Test.YtfbngnplpoepjaaWQPut
import Derived.Test.YtfbngnplpoepjaaWApart
import Derived.Test.YtfbngnplpoepjaaWArr
import Derived.Test.YtfbngnplpoepjaaWZeros
import Derived.Test.YtfbngnplpoepjaaWFoot
import Derived.Test.YtfbngnplpoepjaaWKept
import Derived.Test.YtfbngnplpoepjaaWShare
import Derived.Test.YtfbngnplpoepjaaWN
import Derived.Test.YtfbngnplpoepjaaWFootNe
import Derived.Test.YtfbngnplpoepjaaWAt
import Derived.Test.YtfbngnplpoepjaaWEqStruct
import Derived.Test.YtfbngnplpoepjaaWRepsOne
import Derived.Test.YtfbngnplpoepjaaWInv
import Derived.Test.YtfbngnplpoepjaaWInvWords
import Derived.Test.YtfbngnplpoepjaaWGuard
import Derived.Test.YtfbngnplpoepjaaWNEv
import Derived.Test.YtfbngnplpoepjaaWMore
import Derived.Deep.WholeRow
namespace Go.Proofs.Ytfbngnplpoepjaa.Own
open Go.RowKit Go.Proofs.YtfbngnplpoepjaaW.PrintWords Go.Proofs.YtfbngnplpoepjaaW.PrintLast Go.Proofs.YtfbngnplpoepjaaW.PrintMore

def tstep (x : Int) : Int := Go.bits .xor .u32 (x / 2) (2197175160 * Go.bits .and .u32 x 1 % 4294967296)
def tits : Nat → Int → Int
  | 0, x => x
  | n + 1, x => tstep (tits n x)
def tcell (k i : Nat) : Value := .int .u32 (if i < k then tits 4 i else 0)
def trow (k : Nat) : Array Value := #[tcell k 0, tcell k 1, tcell k 2, tcell k 3, tcell k 4, tcell k 5, tcell k 6, tcell k 7, tcell k 8, tcell k 9, tcell k 10, tcell k 11, tcell k 12, tcell k 13, tcell k 14, tcell k 15]
def trow16 : Array Value := #[.int .u32 (tits 4 0), .int .u32 (tits 4 1), .int .u32 (tits 4 2), .int .u32 (tits 4 3), .int .u32 (tits 4 4), .int .u32 (tits 4 5), .int .u32 (tits 4 6), .int .u32 (tits 4 7), .int .u32 (tits 4 8), .int .u32 (tits 4 9), .int .u32 (tits 4 10), .int .u32 (tits 4 11), .int .u32 (tits 4 12), .int .u32 (tits 4 13), .int .u32 (tits 4 14), .int .u32 (tits 4 15)]
def zrow : Array Value := #[.int .u32 0, .int .u32 0, .int .u32 0, .int .u32 0, .int .u32 0, .int .u32 0, .int .u32 0, .int .u32 0, .int .u32 0, .int .u32 0, .int .u32 0, .int .u32 0, .int .u32 0, .int .u32 0, .int .u32 0, .int .u32 0]

theorem sixteen {P : Nat → Prop} (h0 : P 0) (h1 : P 1) (h2 : P 2) (h3 : P 3) (h4 : P 4) (h5 : P 5) (h6 : P 6) (h7 : P 7) (h8 : P 8) (h9 : P 9) (h10 : P 10) (h11 : P 11) (h12 : P 12) (h13 : P 13) (h14 : P 14) (h15 : P 15) (k : Nat) (h : k < 16) : P k := by
  have : k = 0 ∨ k = 1 ∨ k = 2 ∨ k = 3 ∨ k = 4 ∨ k = 5 ∨ k = 6 ∨ k = 7 ∨ k = 8 ∨ k = 9 ∨ k = 10 ∨ k = 11 ∨ k = 12 ∨ k = 13 ∨ k = 14 ∨ k = 15 := by omega
  rcases this with rfl | rfl | rfl | rfl | rfl | rfl | rfl | rfl | rfl | rfl | rfl | rfl | rfl | rfl | rfl | rfl <;> assumption
theorem trow_get (k : Nat) (h : k < 16) : (trow k)[k]? = some (.int .u32 0) := by
  revert k; apply sixteen <;> rfl
theorem trow_set (k : Nat) (h : k < 16) : (trow k).setIfInBounds k (.int .u32 (tits 4 k)) = trow (k + 1) := by
  revert k; apply sixteen <;> rfl
theorem trow_at (k : Nat) (h : k < 16) : trow16[k]? = some (.int .u32 (tits 4 k)) := by
  revert k; apply sixteen <;> rfl

set_option maxHeartbeats 400000 in
theorem table_calls (w : World) :
    Calls Try.prog 26 #[] w fun e w' => e = .returned (.agg trow16) ∧ Below w.heap.size w w' := by
  go_enter Try.func26, Try.ntmps26
  go_wp2
  go_loopg [2, 3, 4] 16 (fun n v2 v3 v4 w' => ∃ k : Nat, k + n = 16 ∧ v4 = .int .i64 k ∧ w' = (w.alloc (.cells zrow 49)).alloc (.cells (trow k) 49))
  case atStart => exact ⟨0, rfl, rfl, rfl⟩
  case round =>
    obtain ⟨k, hk, rfl, rfl⟩ := hrel
    by_cases hlt : k < 16
    · go_wp2
      go_loopg [3, 9] 4 (fun n v3 v9 w' => ∃ j : Nat, j + n = 4 ∧ v9 = .int .i64 j ∧ v3 = .int .u32 (tits j k) ∧ w' = (w.alloc (.cells zrow 49)).alloc (.cells (trow k) 49))
      case atStart => exact ⟨0, rfl, rfl, by simp [tits] <;> omega, rfl⟩
      case round =>
        obtain ⟨j, hj, rfl, rfl, rfl⟩ := hrel
        by_cases hl2 : j < 4
        · go_wp2
          go_roundg (3 - j)
          case measure => omega
          case rel => exact ⟨j + 1, by omega, by go_num, by simp [tits, tstep], rfl⟩
        · obtain rfl : j = 4 := by omega
          have hg := trow_get k hlt
          have hs := trow_set k hlt
          go_wp2
          go_roundg (15 - k)
          case measure => omega
          case rel => exact ⟨k + 1, by omega, by go_num, rfl⟩
    · obtain rfl : k = 16 := by omega
      rw [show trow 16 = trow16 from rfl]
      unfold trow16 zrow
      go_wp2
      exact bodyPost_ret (v := .agg trow16) (results_cell_row rfl _ _ w.heap.size 49 trow16 (0, 0) _ rfl ((heap_alloc_old _ _ (by simp)).trans (heap_alloc_new _ _)) Try.underlying49 rfl (by kernel_rfl)) rfl ⟨rfl, ((Below.refl _ _).alloc (Nat.le_refl _) _).alloc (by simp) _⟩
theorem and15 (x : Int) : ∃ n : Nat, n < 16 ∧ bits .and .u32 x 15 = n := by
  refine ⟨(BitVec.ofInt 32 x).toNat % 16, by omega, ?_⟩
  show IntKind.u32.wrap ((BitVec.ofInt 32 x &&& BitVec.ofInt 32 15).toNat : Int) = _
  rw [BitVec.toNat_and, show (BitVec.ofInt 32 15).toNat = 2 ^ 4 - 1 from rfl, Nat.and_two_pow_sub_one_eq_mod, IntKind.wrap_u32]
  omega

def thalf (x : Int) : Int := Go.bits .xor .u32 (x / 16) (tits 4 (Go.bits .and .u32 x 15))
def mbyte (x b : Int) : Int := thalf (thalf (Go.bits .xor .u32 x b))
def mfold : Int → List UInt8 → Int
  | x, [] => x
  | x, b :: l => mfold (mbyte x b.toNat) l
def crc_More.f (a0 : Int) (a1 : ByteArray) : Option Int :=
  if a1.size ≤ 9223372036854775807 then some (Go.bits .xor .u32 4294967295 (mfold (Go.bits .xor .u32 4294967295 a0) a1.data.toList)) else none

theorem mfold_drop (x : Int) (s : ByteArray) (i : Nat) (h : i < s.size) : mfold x (s.data.toList.drop i) = mfold (mbyte x (s.data.toList.getD i 0).toNat) (s.data.toList.drop (i + 1)) := by
  have h' : i < s.data.toList.length := by rw [data_length]; exact h
  rw [List.drop_eq_getElem_cons h', mfold]
  simp [List.getD_eq_getElem?_getD, List.getElem?_eq_getElem h']

set_option maxHeartbeats 400000 in
theorem more_calls (c : Int) (s : ByteArray) (w : World) (hs : s.size ≤ 9223372036854775807) (r : Int) (H : mfold (Go.bits .xor .u32 4294967295 c) s.data.toList = r) :
    Calls Try.prog 11 #[.int .u32 c, .string s] w fun e w' => e = .returned (.int .u32 (Go.bits .xor .u32 4294967295 r)) ∧ Below w.heap.size w w' := by
  have kb := fun W => print_bytes (P := Try.prog) 9 33 5 Try.underlying9 Try.underlying33 Try.underlying5 s W
  have hst := fun (w : World) => run_storeCells_new (P := Try.prog) w 49 #[.int .u32 0, .int .u32 0, .int .u32 0, .int .u32 0, .int .u32 0, .int .u32 0, .int .u32 0, .int .u32 0, .int .u32 0, .int .u32 0, .int .u32 0, .int .u32 0, .int .u32 0, .int .u32 0, .int .u32 0, .int .u32 0] trow16 (by kernel_rfl) rfl (by simp [trow16, Value.oneCell'])
  have HH := Aside0.mk H
  clear H
  go_enter Try.func11, Try.ntmps11
  go_wp2_with (first | (go_at_call 26; refine (table_calls _).mono ?_; rintro e w1 ⟨rfl, hb⟩; have HB := Aside0.mk hb; clear hb))
  clear kb hst
  have HT : Aside0 (∀ j, j < 16 → (Lib.bytesWorld (w1.alloc (.cells trow16 49)) 5 s).cell? ⟨w1.heap.size, j, none⟩ = some (.int .u32 (tits 4 j))) := ⟨fun j hj => by
    rw [Lib.bytesWorld_old _ _ _ _ (by simp), cell_of_row _ _ j trow16 49 (0, 0) (heap_alloc_new _ _), trow_at j hj]⟩
  have HS : Aside0 (∀ j, j < s.size → (Lib.bytesWorld (w1.alloc (.cells trow16 49)) 5 s).cell? ⟨w1.heap.size + 1, j, none⟩ = some (.int .u8 (s.data.toList.getD j 0).toNat)) := ⟨fun j hj => by
    have := Lib.bytesWorld_cell (w1.alloc (.cells trow16 49)) 5 s j hj
    simpa using this⟩
  have HE : Aside0 (Below w.heap.size w (Lib.bytesWorld (w1.alloc (.cells trow16 49)) 5 s)) := ⟨bytes_below (HB.out.alloc HB.out.size _) (by have := HB.out.size; simp; omega) _ _⟩
  generalize (Lib.bytesWorld (w1.alloc (.cells trow16 49)) 5 s) = W2 at HT HS HE ⊢
  go_loopg [6, 15] s.size (fun n v6 v15 w' => ∃ (k : Nat) (x : Int), k + n = s.size ∧ v15 = .int .i64 k ∧ v6 = .int .u32 x ∧ w' = W2 ∧ Aside0 (mfold x (s.data.toList.drop k) = r))
  case atStart => exact ⟨0, _, by omega, rfl, rfl, rfl, by simpa using (show Aside0 (mfold (Go.bits .xor .u32 IntKind.u32.max c) s.data.toList = r) from HH)⟩
  case round =>
    clear HH
    obtain ⟨k, x, hk, rfl, rfl, rfl, HA⟩ := hrel
    by_cases hlt : k < s.size
    · obtain ⟨b, hb⟩ : ∃ b : UInt8, s.data.toList.getD k 0 = b := ⟨_, rfl⟩
      have hr := mfold_drop x s k hlt
      have hc := HS.out k hlt
      rw [hb] at hr hc
      clear hb
      have hbr : (b.toNat : Int) < 256 := by have := b.toNat_lt; omega
      obtain ⟨n1, hn1, e1⟩ := and15 (Go.bits .xor .u32 x b.toNat)
      obtain ⟨n2, hn2, e2⟩ := and15 (Go.bits .xor .u32 (Go.bits .xor .u32 x b.toNat / 16) (tits 4 n1))
      have t1 := HT.out n1 hn1
      have t2 := HT.out n2 hn2
      have HA2 : Aside0 (mfold (Go.bits .xor .u32 (Go.bits .xor .u32 (Go.bits .xor .u32 x b.toNat / 16) (tits 4 n1) / 16) (tits 4 n2)) (s.data.toList.drop (k + 1)) = r) := ⟨by
        rw [← HA.out, hr, mbyte, thalf, thalf, e1, e2]⟩
      clear hr HA
      go_wp2
      go_roundg (s.size - k - 1)
      case measure => omega
      case rel => exact ⟨k + 1, _, by omega, by go_num, rfl, rfl, HA2⟩
    · have e := HA.out
      rw [List.drop_of_length_le (by rw [data_length]; omega), mfold] at e
      subst e
      clear HA
      go_wp2
      go_ret
      exact ⟨rfl, HE.out⟩
theorem crc_More.calls (a0 : Int) (a1 : ByteArray) (r : Int) (w : World) (h : crc_More.f a0 a1 = some r) :
    Calls Try.prog 11 #[.int .u32 a0, .string a1] w fun e w' => e = .returned (.int .u32 r) ∧ Below w.heap.size w w' := by
  unfold crc_More.f at h
  split at h
  · rename_i hs
    obtain rfl := Option.some.inj h
    exact more_calls a0 a1 w hs _ rfl
  · cases h
end Go.Proofs.Ytfbngnplpoepjaa.Own

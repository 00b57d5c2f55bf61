/- Functions and their contracts, printed by stubprint.py (a program of this repo, which runs the kit's print with some functions proved by hand): each call answers what the plain function tells. -/
import Derived.Test.YtfbngnplpoepjaaProg
import Derived.Below
import Derived.Deep.Draws
import Derived.Deep.AppendLies
import Derived.Maps.AppendAt
import Derived.OwnWalk
import Derived.Laws.BytesArg
import Derived.Laws.MakeOwn
import Derived.Laws.OwnMore
import Derived.Deep.OwnRows
import Derived.Tactics
import Derived.Lib.ConvBytes
import Derived.Laws.Slices
import Derived.WalkKit
import Derived.KernelRfl
import Derived.RowKit3
import Derived.Deep.LoopGhost
import Derived.Deep.QuietTactic
import Derived.BigQuiet
import Derived.WideLaws
import Derived.Deep.DeepCutAuto
import Derived.Deep.CutBlock
import Derived.Deep.RegionHeld3
import Derived.Laws.Rows
import Derived.Lib.AppendStr
import Derived.ArgAppend
import Derived.Laws.IdiomCopy
import Derived.OrdersHeld
import Derived.Laws.BitsLemmas
import Derived.RowKit
import Derived.Test.YtfbngnplpoepjaaGet1
import Derived.Test.YtfbngnplpoepjaaPx1
import Derived.Test.YtfbngnplpoepjaaPx11
import Derived.Test.YtfbngnplpoepjaaPx12
import Derived.Test.YtfbngnplpoepjaaPx3
import Derived.Test.YtfbngnplpoepjaaPx4
import Derived.Test.YtfbngnplpoepjaaPx5
import Derived.Test.YtfbngnplpoepjaaPx6
import Derived.Test.YtfbngnplpoepjaaPx7
import Derived.Test.YtfbngnplpoepjaaPx8
import Derived.Test.YtfbngnplpoepjaaPx9
import Derived.Test.YtfbngnplpoepjaaWWords
import Derived.Test.YtfbngnplpoepjaaWLast
import Derived.Test.YtfbngnplpoepjaaWTab
import Derived.Test.YtfbngnplpoepjaaWFour
import Derived.Test.YtfbngnplpoepjaaWQPut
import Derived.Test.YtfbngnplpoepjaaWApart
import Derived.Test.YtfbngnplpoepjaaWArr
import Derived.Test.YtfbngnplpoepjaaWZeros
import Derived.Test.YtfbngnplpoepjaaWFoot
import Derived.Test.YtfbngnplpoepjaaWKept
import Derived.Test.YtfbngnplpoepjaaWShare
import Derived.Test.YtfbngnplpoepjaaWN
import Derived.Test.YtfbngnplpoepjaaWFootNe
import Derived.Test.YtfbngnplpoepjaaWAt
import Derived.Test.YtfbngnplpoepjaaWEqStruct
import Derived.Test.YtfbngnplpoepjaaWRepsOne
import Derived.Test.YtfbngnplpoepjaaWInv
import Derived.Test.YtfbngnplpoepjaaWInvWords
import Derived.Test.YtfbngnplpoepjaaWGuard
import Derived.Test.YtfbngnplpoepjaaWNEv
import Derived.Test.YtfbngnplpoepjaaWMore
namespace Go.Proofs.Ytfbngnplpoepjaa.Q
open Go.Proofs.Ytfbngnplpoepjaa.Own Go.Proofs.Ytfbngnplpoepjaa.Pure Go.Proofs.Ytfbngnplpoepjaa.P
open Go.RowKit Go.Proofs.YtfbngnplpoepjaaW.PrintWords Go.Proofs.YtfbngnplpoepjaaW.PrintLast Go.Proofs.YtfbngnplpoepjaaW.PrintMore
attribute [local go_sem] max2_int min2_int max_two min_two max_three min_three max_four min_four   -- for this text's walks alone
set_option linter.unusedVariables false
set_option linter.unusedSimpArgs false



def errW : Option Int → Value
  | none => .nilIface
  | some c => .iface 0 (.int .i64 c)
theorem errW_none : errW none = .nilIface := rfl
theorem errW_some (c : Int) : errW (some c) = .iface 0 (.int .i64 c) := rfl

-- the values' own types
/-! #### struct type 37 -/
structure S37 where
  f0 : Int
  f1 : ByteArray
def z37 : S37 := ⟨(0 : Int), (⟨#[]⟩ : ByteArray)⟩
def k37 : Kd S37 := Kd.iso (Kd.pair (Kd.int .u64) Kd.string) (fun x : S37 => (x.f0, x.f1))
theorem k37_open {w : World} {x : S37} {cs : List Value} (h : k37.K w x cs) : cs = [.int .u64 x.f0, .string x.f1] := by
  obtain ⟨_, _, rfl, rfl, rfl⟩ := h
  exact rfl
theorem k37_openM {w : World} {base : Nat} {ok : Nat → Prop} {x : S37} {cs : List Value} (h : k37.M w base ok x cs) : cs = [.int .u64 x.f0, .string x.f1] := by
  obtain ⟨_, _, rfl, rfl, rfl⟩ := h
  exact rfl
theorem k37_mk (w : World) (x : S37)  : k37.K w x [.int .u64 x.f0, .string x.f1] := ⟨[.int .u64 x.f0], [.string x.f1], rfl, rfl, rfl⟩
theorem k37_mkM (w : World) (base : Nat) (ok : Nat → Prop) (x : S37)  : k37.M w base ok x [.int .u64 x.f0, .string x.f1] := ⟨[.int .u64 x.f0], [.string x.f1], rfl, rfl, rfl⟩
def rd_T37 (xs : List S37) (i : Int) : S37 := xs.getD i.toNat z37
theorem at_T37 {w : World} {A : Option Addr} {n : Nat} {xs : List S37} (h : Kd.C k37 w A n xs) (i : Int) (h0 : 0 ≤ i) (h1 : i < n) : ∃ ad , A = some ad ∧ w.cell? (ad.add (i.toNat * 2)) = some (.int .u64 (rd_T37 xs i).f0) ∧ w.cell? ⟨(ad.add (i.toNat * 2)).block, (ad.add (i.toNat * 2)).off + 1, none⟩ = some (.string (rd_T37 xs i).f1) := by
  obtain ⟨ad, c, e, _, hK, hc0⟩ := Kd.C_get h z37 i h0 h1
  have hc : ∀ j u, c[j]? = some u → w.cell? (ad.add (i.toNat * 2 + j)) = some u := hc0
  obtain rfl := k37_open hK
  exact ⟨ad, e, hc 0 _ rfl, by rw [← add_field _ _ 1 (by omega)]; exact hc 1 _ rfl⟩

/-! #### struct type 39 -/
structure S39 where
  f0 : Int
  f1 : Int
  f2 : Int
  f3 : S37
def z39 : S39 := ⟨(0 : Int), (0 : Int), (0 : Int), z37⟩
def k39 : Kd S39 := Kd.iso (Kd.pair (Kd.int .u64) (Kd.pair (Kd.int .i64) (Kd.pair (Kd.int .i64) k37))) (fun x : S39 => (x.f0, x.f1, x.f2, x.f3))
theorem k39_open {w : World} {x : S39} {cs : List Value} (h : k39.K w x cs) : cs = [.int .u64 x.f0, .int .i64 x.f1, .int .i64 x.f2, .int .u64 x.f3.f0, .string x.f3.f1] := by
  obtain ⟨_, _, rfl, rfl, ⟨_, _, rfl, rfl, ⟨_, _, rfl, rfl, s3⟩⟩⟩ := h
  obtain rfl := k37_open s3
  exact rfl
theorem k39_openM {w : World} {base : Nat} {ok : Nat → Prop} {x : S39} {cs : List Value} (h : k39.M w base ok x cs) : cs = [.int .u64 x.f0, .int .i64 x.f1, .int .i64 x.f2, .int .u64 x.f3.f0, .string x.f3.f1] := by
  obtain ⟨_, _, rfl, rfl, ⟨_, _, rfl, rfl, ⟨_, _, rfl, rfl, s3⟩⟩⟩ := h
  obtain rfl := k37_openM s3
  exact rfl
theorem k39_mk (w : World) (x : S39)  : k39.K w x [.int .u64 x.f0, .int .i64 x.f1, .int .i64 x.f2, .int .u64 x.f3.f0, .string x.f3.f1] := ⟨[.int .u64 x.f0], [.int .i64 x.f1, .int .i64 x.f2, .int .u64 x.f3.f0, .string x.f3.f1], rfl, rfl, ⟨[.int .i64 x.f1], [.int .i64 x.f2, .int .u64 x.f3.f0, .string x.f3.f1], rfl, rfl, ⟨[.int .i64 x.f2], [.int .u64 x.f3.f0, .string x.f3.f1], rfl, rfl, (k37_mk w x.f3 )⟩⟩⟩
theorem k39_mkM (w : World) (base : Nat) (ok : Nat → Prop) (x : S39)  : k39.M w base ok x [.int .u64 x.f0, .int .i64 x.f1, .int .i64 x.f2, .int .u64 x.f3.f0, .string x.f3.f1] := ⟨[.int .u64 x.f0], [.int .i64 x.f1, .int .i64 x.f2, .int .u64 x.f3.f0, .string x.f3.f1], rfl, rfl, ⟨[.int .i64 x.f1], [.int .i64 x.f2, .int .u64 x.f3.f0, .string x.f3.f1], rfl, rfl, ⟨[.int .i64 x.f2], [.int .u64 x.f3.f0, .string x.f3.f1], rfl, rfl, (k37_mkM w base ok x.f3 )⟩⟩⟩
def rd_T39 (xs : List S39) (i : Int) : S39 := xs.getD i.toNat z39
theorem at_T39 {w : World} {A : Option Addr} {n : Nat} {xs : List S39} (h : Kd.C k39 w A n xs) (i : Int) (h0 : 0 ≤ i) (h1 : i < n) : ∃ ad , A = some ad ∧ w.cell? (ad.add (i.toNat * 5)) = some (.int .u64 (rd_T39 xs i).f0) ∧ w.cell? ⟨(ad.add (i.toNat * 5)).block, (ad.add (i.toNat * 5)).off + 1, none⟩ = some (.int .i64 (rd_T39 xs i).f1) ∧ w.cell? ⟨(ad.add (i.toNat * 5)).block, (ad.add (i.toNat * 5)).off + 2, none⟩ = some (.int .i64 (rd_T39 xs i).f2) ∧ w.cell? ⟨(ad.add (i.toNat * 5)).block, (ad.add (i.toNat * 5)).off + 3, none⟩ = some (.int .u64 (rd_T39 xs i).f3.f0) ∧ w.cell? ⟨(ad.add (i.toNat * 5)).block, (ad.add (i.toNat * 5)).off + 4, none⟩ = some (.string (rd_T39 xs i).f3.f1) := by
  obtain ⟨ad, c, e, _, hK, hc0⟩ := Kd.C_get h z39 i h0 h1
  have hc : ∀ j u, c[j]? = some u → w.cell? (ad.add (i.toNat * 5 + j)) = some u := hc0
  obtain rfl := k39_open hK
  exact ⟨ad, e, hc 0 _ rfl, by rw [← add_field _ _ 1 (by omega)]; exact hc 1 _ rfl, by rw [← add_field _ _ 2 (by omega)]; exact hc 2 _ rfl, by rw [← add_field _ _ 3 (by omega)]; exact hc 3 _ rfl, by rw [← add_field _ _ 4 (by omega)]; exact hc 4 _ rfl⟩

/-! #### struct type 46 -/
structure S46 where
  f0 : S39
  f1 : Bool
def z46 : S46 := ⟨z39, false⟩
def k46 : Kd S46 := Kd.iso (Kd.pair k39 Kd.bool) (fun x : S46 => (x.f0, x.f1))
theorem k46_open {w : World} {x : S46} {cs : List Value} (h : k46.K w x cs) : cs = [.int .u64 x.f0.f0, .int .i64 x.f0.f1, .int .i64 x.f0.f2, .int .u64 x.f0.f3.f0, .string x.f0.f3.f1, .bool x.f1] := by
  obtain ⟨_, _, rfl, s0, rfl⟩ := h
  obtain rfl := k39_open s0
  exact rfl
theorem k46_openM {w : World} {base : Nat} {ok : Nat → Prop} {x : S46} {cs : List Value} (h : k46.M w base ok x cs) : cs = [.int .u64 x.f0.f0, .int .i64 x.f0.f1, .int .i64 x.f0.f2, .int .u64 x.f0.f3.f0, .string x.f0.f3.f1, .bool x.f1] := by
  obtain ⟨_, _, rfl, s0, rfl⟩ := h
  obtain rfl := k39_openM s0
  exact rfl
theorem k46_mk (w : World) (x : S46)  : k46.K w x [.int .u64 x.f0.f0, .int .i64 x.f0.f1, .int .i64 x.f0.f2, .int .u64 x.f0.f3.f0, .string x.f0.f3.f1, .bool x.f1] := ⟨[.int .u64 x.f0.f0, .int .i64 x.f0.f1, .int .i64 x.f0.f2, .int .u64 x.f0.f3.f0, .string x.f0.f3.f1], [.bool x.f1], rfl, (k39_mk w x.f0 ), rfl⟩
theorem k46_mkM (w : World) (base : Nat) (ok : Nat → Prop) (x : S46)  : k46.M w base ok x [.int .u64 x.f0.f0, .int .i64 x.f0.f1, .int .i64 x.f0.f2, .int .u64 x.f0.f3.f0, .string x.f0.f3.f1, .bool x.f1] := ⟨[.int .u64 x.f0.f0, .int .i64 x.f0.f1, .int .i64 x.f0.f2, .int .u64 x.f0.f3.f0, .string x.f0.f3.f1], [.bool x.f1], rfl, (k39_mkM w base ok x.f0 ), rfl⟩
def rd_T46 (xs : List S46) (i : Int) : S46 := xs.getD i.toNat z46
theorem at_T46 {w : World} {A : Option Addr} {n : Nat} {xs : List S46} (h : Kd.C k46 w A n xs) (i : Int) (h0 : 0 ≤ i) (h1 : i < n) : ∃ ad , A = some ad ∧ w.cell? (ad.add (i.toNat * 6)) = some (.int .u64 (rd_T46 xs i).f0.f0) ∧ w.cell? ⟨(ad.add (i.toNat * 6)).block, (ad.add (i.toNat * 6)).off + 1, none⟩ = some (.int .i64 (rd_T46 xs i).f0.f1) ∧ w.cell? ⟨(ad.add (i.toNat * 6)).block, (ad.add (i.toNat * 6)).off + 2, none⟩ = some (.int .i64 (rd_T46 xs i).f0.f2) ∧ w.cell? ⟨(ad.add (i.toNat * 6)).block, (ad.add (i.toNat * 6)).off + 3, none⟩ = some (.int .u64 (rd_T46 xs i).f0.f3.f0) ∧ w.cell? ⟨(ad.add (i.toNat * 6)).block, (ad.add (i.toNat * 6)).off + 4, none⟩ = some (.string (rd_T46 xs i).f0.f3.f1) ∧ w.cell? ⟨(ad.add (i.toNat * 6)).block, (ad.add (i.toNat * 6)).off + 5, none⟩ = some (.bool (rd_T46 xs i).f1) := by
  obtain ⟨ad, c, e, _, hK, hc0⟩ := Kd.C_get h z46 i h0 h1
  have hc : ∀ j u, c[j]? = some u → w.cell? (ad.add (i.toNat * 6 + j)) = some u := hc0
  obtain rfl := k46_open hK
  exact ⟨ad, e, hc 0 _ rfl, by rw [← add_field _ _ 1 (by omega)]; exact hc 1 _ rfl, by rw [← add_field _ _ 2 (by omega)]; exact hc 2 _ rfl, by rw [← add_field _ _ 3 (by omega)]; exact hc 3 _ rfl, by rw [← add_field _ _ 4 (by omega)]; exact hc 4 _ rfl, by rw [← add_field _ _ 5 (by omega)]; exact hc 5 _ rfl⟩

end Go.Proofs.Ytfbngnplpoepjaa.Q

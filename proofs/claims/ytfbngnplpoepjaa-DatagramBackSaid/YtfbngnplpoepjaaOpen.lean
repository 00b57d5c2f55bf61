/-
  A datagram that came in, by value: what its reading says of its cells.
-/
import Derived.Test.YtfbngnplpoepjaaRows
import Derived.ProofKit
import Derived.OpenShut
import Derived.Lib.SmallJoins
namespace Go.Proofs.Ytfbngnplpoepjaa.Own
open Go.ChangeShapes Go.WideShapes Go.ChangeAt Go.RowKit

theorem cells5 {cs : List Value} (h : cs.length = 5) : ∃ c0 c1 c2 c3 c4, cs = [c0, c1, c2, c3, c4] := by
  match cs, h with
  | [c0, c1, c2, c3, c4], _ => exact ⟨c0, c1, c2, c3, c4, rfl⟩
theorem cells2 {cs : List Value} (h : cs.length = 2) : ∃ c0 c1, cs = [c0, c1] := by
  match cs, h with
  | [c0, c1], _ => exact ⟨c0, c1, rfl⟩
theorem read37 {H : Type} {enc : TypeId × Value → H} {w : World} {base : Nat} {spare : Nat → Bool} {held : Bool} {fuel : Nat} {cs : List Value} {x : DataW H × List MemPlace} (h : DataW.trod enc Try.prog w base spare held fuel 37 cs = some x) :
    ∃ (a : Int) (s : ByteArray), cs = [.int .u64 a, .string s] ∧ (Lit.int .u64 a).wf = true := by
  obtain ⟨y0, y1, n, _, hl, h0, h1⟩ := trod_struct2 Try.underlying37 h
  have k37 : Try.prog.cellsOf 37 = 2 := by kernel_rfl
  have k35 : Try.prog.cellsOf 35 = 1 := by kernel_rfl
  have k9 : Try.prog.cellsOf 9 = 1 := by kernel_rfl
  rw [k37] at hl
  rw [k35] at h0
  rw [k9] at h1
  obtain ⟨c0, c1, rfl⟩ := cells2 hl
  obtain ⟨a, e0, _, wa⟩ := DataW.trod_int Try.underlying35 h0
  obtain ⟨s, e1, _, _⟩ := DataW.trod_string Try.underlying9 h1
  cases e0
  cases e1
  exact ⟨a, s, rfl, wa⟩
theorem read39 {H : Type} {enc : TypeId × Value → H} {w : World} {base : Nat} {spare : Nat → Bool} {held : Bool} {fuel : Nat} {cs : List Value} {x : DataW H × List MemPlace} (h : DataW.trod enc Try.prog w base spare held fuel 39 cs = some x) :
    ∃ (a k m b : Int) (s : ByteArray), cs = [.int .u64 a, .int .i64 k, .int .i64 m, .int .u64 b, .string s] ∧ (Lit.int .u64 a).wf = true ∧ (Lit.int .i64 k).wf = true ∧ (Lit.int .i64 m).wf = true ∧ (Lit.int .u64 b).wf = true := by
  obtain ⟨y0, y1, y2, y3, n, _, hl, h0, h1, h2, h3⟩ := Joins.trod_struct4 Try.underlying39 h
  have k39 : Try.prog.cellsOf 39 = 5 := by kernel_rfl
  have k37 : Try.prog.cellsOf 37 = 2 := by kernel_rfl
  have k35 : Try.prog.cellsOf 35 = 1 := by kernel_rfl
  have k3 : Try.prog.cellsOf 3 = 1 := by kernel_rfl
  rw [k39] at hl
  rw [k35] at h0
  rw [k3] at h1 h2
  rw [k37] at h3
  obtain ⟨c0, c1, c2, c3, c4, rfl⟩ := cells5 hl
  obtain ⟨a, e0, _, wa⟩ := DataW.trod_int Try.underlying35 h0
  obtain ⟨k, e1, _, wk⟩ := DataW.trod_int Try.underlying3 h1
  obtain ⟨m, e2, _, wm⟩ := DataW.trod_int Try.underlying3 h2
  obtain ⟨b, s, e3, wb⟩ := read37 h3
  cases e0
  cases e1
  cases e2
  cases e3
  exact ⟨a, k, m, b, s, rfl, wa, wk, wm, wb⟩
/-- A datagram, by value: the value written out. -/
theorem open39 {H : Type} {enc : TypeId × Value → H} {w : World} {base b0 : Nat} {spare : Nat → Bool} {held : Bool} {r : Reach} {v : Value} {d : DataW H} {p : List MemPlace} (hv : Value.okWide Try.prog w r b0 39 v) (h : DataW.Trod enc Try.prog w base spare held 39 v d p) :
    ∃ (a k m b : Int) (s : ByteArray), v = .agg #[.int .u64 a, .int .i64 k, .int .i64 m, .int .u64 b, .string s] ∧ (Lit.int .u64 a).wf = true ∧ (Lit.int .i64 k).wf = true ∧ (Lit.int .i64 m).wf = true ∧ (Lit.int .u64 b).wf = true := by
  obtain ⟨cs, rfl, _⟩ := okWide_struct Try.underlying39 hv
  obtain ⟨fuel, hf⟩ := h
  obtain ⟨a, k, m, b, s, e, ws⟩ := read39 (by simpa [Value.cells] using hf)
  obtain ⟨l⟩ := cs
  simp only at e
  subst e
  exact ⟨a, k, m, b, s, rfl, ws⟩
end Go.Proofs.Ytfbngnplpoepjaa.Own

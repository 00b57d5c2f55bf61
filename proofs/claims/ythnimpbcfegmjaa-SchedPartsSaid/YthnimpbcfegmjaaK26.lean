/-
  A system as an argument: its six slices.
-/
import Derived.Test.YthnimpbcfegmjaaS3
namespace Go.Proofs.Ythnimpbcfegmjaa.P
open Go.RowKit Go.Proofs.YthnimpbcfegmjaaW.PrintWords Go.Proofs.YthnimpbcfegmjaaW.PrintLast Go.Proofs.YthnimpbcfegmjaaW.PrintMore Go.Proofs.Ythnimpbcfegmjaa.Model
structure S26 where
  f0 : List (List S44)
  f1 : List Int
  f2 : List Int
  f3 : List Int
  f4 : List Int
  f5 : List (List Int)
def k26 : Kd S26 := Kd.iso (Kd.pair (Kd.slice 42 (Kd.slice 44 k44)) (Kd.pair (Kd.slice 3 (Kd.int .i64)) (Kd.pair (Kd.slice 3 (Kd.int .i64)) (Kd.pair (Kd.slice 3 (Kd.int .i64)) (Kd.pair (Kd.slice 3 (Kd.int .i64)) (Kd.slice 23 (Kd.slice 3 (Kd.int .i64)))))))) (fun x : S26 => (x.f0, x.f1, x.f2, x.f3, x.f4, x.f5))
def S26.sys (a : S26) : Syst := ⟨a.f0, a.f1, a.f2, a.f3, a.f4, a.f5⟩
theorem k26_sys {w : World} {a : S26} {cs : List Value} (h : k26.K w a cs) : ∃ p : Own.Ad, cs.toArray = Own.sysA a.sys p ∧ Own.SysC w a.sys p := by
  obtain ⟨_, _, rfl, ⟨a0, c0, rfl, l0, h0⟩, ⟨_, _, rfl, ⟨a1, c1, rfl, l1, h1⟩, ⟨_, _, rfl, ⟨a2, c2, rfl, l2, h2⟩, ⟨_, _, rfl, ⟨a3, c3, rfl, l3, h3⟩, ⟨_, _, rfl, ⟨a4, c4, rfl, l4, h4⟩, ⟨a5, c5, rfl, l5, h5⟩⟩⟩⟩⟩⟩ := h
  exact ⟨⟨a0, c0, a1, c1, a2, c2, a3, c3, a4, c4, a5, c5⟩, rfl, ⟨h0, l0, h1, l1, h2, l2, h3, l3, h4, l4, h5, l5⟩⟩
end Go.Proofs.Ythnimpbcfegmjaa.P

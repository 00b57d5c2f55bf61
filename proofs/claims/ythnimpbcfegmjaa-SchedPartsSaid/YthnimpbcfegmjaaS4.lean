/-
  sched.kinds and what stands in it: what an instruction waits for.
-/
import Derived.Test.YthnimpbcfegmjaaS3
import Derived.Laws.EntriesVeiled
namespace Go.Proofs.Ythnimpbcfegmjaa.Own
open Go.RowKit Go.Proofs.YthnimpbcfegmjaaW.PrintWords Go.Proofs.YthnimpbcfegmjaaW.PrintLast Go.Proofs.YthnimpbcfegmjaaW.PrintMore Go.Proofs.Ythnimpbcfegmjaa.P Go.Proofs.Ythnimpbcfegmjaa.Model
set_option linter.unusedVariables false

abbrev fn (n : Nat) : Value := .func (.func n) #[] #[]
abbrev kindsV : Value := .agg #[fn 63, fn 64, fn 65, fn 66, fn 65, fn 67, fn 68, fn 69, fn 71, fn 72]
set_option maxRecDepth 100000 in
set_option maxHeartbeats 4000000 in
theorem kinds_calls (w : World) : Calls Try.prog 58 #[] w fun e w' => e = .returned kindsV ∧ Below w.heap.size w w' := by
  go_enter Try.func58, Try.ntmps58
  go_wp2
  refine bodyPost_ret (v := kindsV) ?_ rfl ⟨rfl, ?_⟩
  · simp [results, go_sem]
  · exact (Below.refl _ _).alloc (Nat.le_refl _) _
theorem getD_of {l : List Int} {k : Nat} {x : Int} (h : l[k]? = some x) (d : Int) : l.getD k d = x := by rw [List.getD_eq_getElem?_getD, h]; rfl
theorem getD_ofL {l : List (List Int)} {k : Nat} {x : List Int} (h : l[k]? = some x) (d : List Int) : l.getD k d = x := by rw [List.getD_eq_getElem?_getD, h]; rfl
/-- An instruction that may be. -/
theorem okI_bounds {i : S44} (h : okI i = true) : 0 ≤ i.f0 ∧ i.f0 ≤ 4 ∧ 0 ≤ i.f1 ∧ i.f1 ≤ 3 ∧ -1000 ≤ i.f2 ∧ i.f2 ≤ 1000 := by
  simp only [okI, inB, Bool.and_eq_true, decide_eq_true_eq] at h
  omega
def Ret (b : Bool) (w : World) (e : Ending) (w' : World) : Prop := e = .returned (.bool b) ∧ Below w.heap.size w w'
set_option maxRecDepth 100000 in
set_option maxHeartbeats 4000000 in
theorem lockFree_calls (s : Syst) (p : Ad) (i : S44) (w : World) (hC : SysC w s p) (hi : okI i = true) (h4 : s.lo.length = 4) : Calls Try.prog 63 #[.agg (sysA s p), iv i] w (Ret (s.lo.getD i.f1.toNat 0 == -1) w) := by
  obtain ⟨_, _, h1, h2, _⟩ := okI_bounds hi
  obtain ⟨k, hk⟩ : ∃ k : Nat, i.f1 = k := ⟨i.f1.toNat, by omega⟩
  have hlt : k < s.lo.length := by omega
  obtain ⟨x, hx⟩ : ∃ x, s.lo[k]? = some x := ⟨_, List.getElem?_eq_getElem hlt⟩
  have hB1 : Below w.heap.size w (w.alloc (.cells (sysA s p) 26)) := (Below.refl _ _).alloc (Nat.le_refl _) _
  have hB2 := hB1.alloc hB1.size (.cells #[.int .i64 i.f0, .int .i64 i.f1, .int .i64 i.f2] 44)
  obtain ⟨ad, e3, t0⟩ := Kd.at_int (hC.below hB2).r3 (k : Int) (by omega) (by omega)
  rw [rdI hx, Int.toNat_natCast] at t0
  have hR : (s.lo.getD i.f1.toNat 0 == -1) = (x == -1) := by rw [hk, Int.toNat_natCast, getD_of hx]
  rw [hR]
  have HB2 := Aside0.mk hB2
  obtain ⟨o, a, n⟩ := i
  dsimp only at *
  subst hk
  obtain ⟨a0, c0, a1, c1, a2, c2, a3, c3, a4, c4, a5, c5⟩ := p
  unfold sysA at *
  dsimp only at *
  subst e3
  clear hR hB1 hB2 hC hx hi h4 h2
  go_enter Try.func63, Try.ntmps63
  go_wp2
  go_ret
  exact ⟨rfl, HB2.out⟩
set_option maxRecDepth 100000 in
set_option maxHeartbeats 4000000 in
theorem hasRoom_calls (s : Syst) (p : Ad) (i : S44) (w : World) (hC : SysC w s p) (hi : okI i = true) (h4 : s.ch.length = 4) : Calls Try.prog 68 #[.agg (sysA s p), iv i] w (Ret (decide ((s.ch.getD i.f1.toNat []).length < 2)) w) := by
  obtain ⟨_, _, h1, h2, _⟩ := okI_bounds hi
  obtain ⟨k, hk⟩ : ∃ k : Nat, i.f1 = k := ⟨i.f1.toNat, by omega⟩
  have hlt : k < s.ch.length := by omega
  obtain ⟨x, hx⟩ : ∃ x, s.ch[k]? = some x := ⟨_, List.getElem?_eq_getElem hlt⟩
  have hB1 : Below w.heap.size w (w.alloc (.cells (sysA s p) 26)) := (Below.refl _ _).alloc (Nat.le_refl _) _
  have hB2 := hB1.alloc hB1.size (.cells #[.int .i64 i.f0, .int .i64 i.f1, .int .i64 i.f2] 44)
  obtain ⟨ad, A1, cc, e3, t0, _, _⟩ := at_L3 (hC.below hB2).r5 (k : Int) (by omega) (by omega)
  rw [rdL hx, Int.toNat_natCast] at t0
  have hR : decide ((s.ch.getD i.f1.toNat []).length < 2) = decide ((x.length : Int) < 2) := by rw [hk, Int.toNat_natCast, getD_ofL hx]; exact decide_eq_decide.mpr (by omega)
  rw [hR]
  have HB2 := Aside0.mk hB2
  obtain ⟨o, a, n⟩ := i
  dsimp only at *
  subst hk
  obtain ⟨a0, c0, a1, c1, a2, c2, a3, c3, a4, c4, a5, c5⟩ := p
  unfold sysA at *
  dsimp only at *
  subst e3
  clear hR hB1 hB2 hC hx hi h4 h2
  go_enter Try.func68, Try.ntmps68
  go_wp2
  go_ret
  exact ⟨rfl, HB2.out⟩
set_option maxRecDepth 100000 in
set_option maxHeartbeats 4000000 in
theorem hasSome_calls (s : Syst) (p : Ad) (i : S44) (w : World) (hC : SysC w s p) (hi : okI i = true) (h4 : s.ch.length = 4) : Calls Try.prog 71 #[.agg (sysA s p), iv i] w (Ret (decide (0 < (s.ch.getD i.f1.toNat []).length)) w) := by
  obtain ⟨_, _, h1, h2, _⟩ := okI_bounds hi
  obtain ⟨k, hk⟩ : ∃ k : Nat, i.f1 = k := ⟨i.f1.toNat, by omega⟩
  have hlt : k < s.ch.length := by omega
  obtain ⟨x, hx⟩ : ∃ x, s.ch[k]? = some x := ⟨_, List.getElem?_eq_getElem hlt⟩
  have hB1 : Below w.heap.size w (w.alloc (.cells (sysA s p) 26)) := (Below.refl _ _).alloc (Nat.le_refl _) _
  have hB2 := hB1.alloc hB1.size (.cells #[.int .i64 i.f0, .int .i64 i.f1, .int .i64 i.f2] 44)
  obtain ⟨ad, A1, cc, e3, t0, _, _⟩ := at_L3 (hC.below hB2).r5 (k : Int) (by omega) (by omega)
  rw [rdL hx, Int.toNat_natCast] at t0
  have hR : decide (0 < (s.ch.getD i.f1.toNat []).length) = decide (0 < x.length) := by rw [hk, Int.toNat_natCast, getD_ofL hx]
  rw [hR]
  have HB2 := Aside0.mk hB2
  obtain ⟨o, a, n⟩ := i
  dsimp only at *
  subst hk
  obtain ⟨a0, c0, a1, c1, a2, c2, a3, c3, a4, c4, a5, c5⟩ := p
  unfold sysA at *
  dsimp only at *
  subst e3
  clear hR hB1 hB2 hC hx hi h4 h2
  go_enter Try.func71, Try.ntmps71
  go_wp2
  go_ret
  exact ⟨rfl, HB2.out⟩
end Go.Proofs.Ythnimpbcfegmjaa.Own

/-
  The law SchedRises' closure 'full', walked by hand: picks cut or filled up to so many; a call of a function value that has captured one variable.
-/
import Derived.Test.YthnimpbcfegmjaaA2
namespace Go.Proofs.Ythnimpbcfegmjaa.Own
open Go.RowKit Go.Proofs.YthnimpbcfegmjaaW.PrintWords Go.Proofs.YthnimpbcfegmjaaW.PrintLast Go.Proofs.YthnimpbcfegmjaaW.PrintMore Go.Proofs.Ythnimpbcfegmjaa.P Go.Proofs.Ythnimpbcfegmjaa.Model
set_option linter.unusedVariables false
set_option linter.unusedSimpArgs false
attribute [local go_sem] max2_int min2_int max_two min_two max_three min_three max_four min_four

section
variable {P : Program} {ops : Array Oper} {Q : Exit → Act → World → Prop}
/-- A call of a function value that lies in a slot and has captured one variable. -/
theorem goesC_ {oi : Oper} {N : Option Tmp} {a : Act} {w : World} {K : Act → World → Prop} {f : FuncId} {fn : Func} {ars : Array Operand} {ts : Array TypeId} {o : Operand} {cap : Value} (hf : P.funcs[f]? = some fn) (hname : (fn.name == "runtime.NumGoroutine") = false) (hb : fn.body.isSome = true) (args : Array Value)
    (hw : Region.wanted oi (yielded ops a.tmps) = true) (hN : oi.dst = N) (hop : oi.op = .call { callee := .value o, args := ars, argTypes := ts }) (ho : a.eval o = .func (.func f) #[] #[cap]) (hargs : ars.map a.eval = args)
    (h : Calls P f (args ++ #[cap]) w fun e w' => ∃ v, e = .returned v ∧ K (a.put N v) w') : if Region.wanted oi (yielded ops a.tmps) = true then Oper.wp P oi a w K Q else K (a.put N undef) w := by
  refine call_ f (args ++ #[cap]) hw hN ?_ h
  have he := enters_ hf hname hb (args ++ #[cap]) w
  unfold execOp
  simp [hop, resolve, Deferred.ofValue, invoke, ho, hargs]
  simpa using he
end
set_option maxRecDepth 100000 in
set_option maxHeartbeats 4000000 in
theorem full_calls (A : Option Addr) (c : Nat) (l : List Int) (gs n : Nat) (w : World) (hC : CI w A l) (hc : l.length ≤ c) (hg : w.heap[gs]? = some (.cells #[.int .i64 (n : Int)] 3 (0, 0))) (hn : n ≤ 100) : Calls Try.prog 16 #[.slice A l.length c, .pointer (some ⟨gs, 0, none⟩)] w (fun e w' => ∃ B d L, L.length = n ∧ e = .returned (.slice B n d) ∧ n ≤ d ∧ CI w' B L ∧ Below w.heap.size w w') := by
  obtain ⟨L1, hL1⟩ : ∃ L1, L1 = l.take n := ⟨_, rfl⟩
  have hLn : L1.length = min l.length n := by rw [hL1, List.length_take]; omega
  have HC : Aside0 (CI w A L1) := ⟨by
    have h2 := Kd.C_take hC (m := min l.length n) (by omega)
    rw [take_min, ← hL1] at h2
    exact h2⟩
  have qm : (if (n : Int) < (l.length : Int) then (n : Int) else (l.length : Int)) = (L1.length : Int) := by split <;> omega
  have qm2 : (if n < l.length then (n : Int) else (l.length : Int)) = (L1.length : Int) := by split <;> omega
  have qc : ∀ W : World, (Instr.slice 23 (.slice A l.length c) none (some (.int .i64 (L1.length : Int))) none).run Try.prog W = .ok (.slice A L1.length c) W := fun W => by
    obtain ⟨i, hi, hz0, -⟩ := info_parts info3
    have h3 := cut_to (P := Try.prog) 23 3 .i64 Try.underlying23 hi A l.length c (L1.length : Int) (by omega) (by omega) hc W
    rw [Int.toNat_natCast] at h3
    exact h3
  have q0 : w.cell? ⟨gs, 0, none⟩ = some (.int .i64 (n : Int)) := blk_cell hg 0
  have HG := Aside0.mk hg
  have HN1 : Aside0 (L1.length ≤ n) := ⟨by omega⟩
  have HWR0 : wrap64 ((n : Int) - (L1.length : Int)) = ((n - L1.length : Nat) : Int) := by unfold wrap64; omega
  have HWR := Aside0.mk HWR0
  have HN := Aside0.mk hn
  clear hL1 hLn hC hc hg hn HWR0
  go_enter Try.func16, Try.ntmps16
  go_wp2_with (first
    | (go_at_call 17; refine (clone_calls A c L1 _ HC.out (by have := HN1.out; have := HN.out; omega)).mono ?_; rintro e w2 ⟨v, rfl, hr, hb⟩; obtain ⟨B, d, rfl⟩ := row_slice hr; have HR := Aside0.mk hr; have HB := Aside0.mk hb; replace q0 := pw_cell_below hb q0; clear hr hb)
    | (at_builtin; refine hold ?_))
  refine ⟨?_⟩
  refine Kd.R_append_zeros (Kd.int .i64) (w0 := w) w.heap.size rfl _ _ 23 3 3 _ 8 rfl Try.underlying23 Try.underlying3 info3 rfl (by decide) (by decide) (.slice B L1.length d) L1 (0 : Int) ((n - L1.length : Nat) : Int) (fun _ => True) rfl (congrArg (Value.int .i64) HWR.out) rfl (fun _ _ => trivial) (rowI_R HR.out) (by omega) HB.out HB.out.size (by have := HN1.out; have := HN.out; simp; omega) ?_
  intro v1 w3 hr hb _ _
  rw [Int.toNat_natCast] at hr
  obtain ⟨L, hL⟩ : ∃ L, L1 ++ List.replicate (n - L1.length) 0 = L := ⟨_, rfl⟩
  have hLn : L.length = n := by rw [← hL, List.length_append, List.length_replicate]; have := HN1.out; omega
  rw [hL] at hr
  obtain ⟨E, dE, rfl, h1, h2⟩ := Kd.R_reads hr
  have HP : Aside0 (∃ B d L, L.length = n ∧ (Ending.returned (.slice E n dE)) = .returned (.slice B n d) ∧ n ≤ d ∧ CI w3 B L ∧ Below w.heap.size w w3) := ⟨⟨E, dE, L, hLn, rfl, by omega, h2, hb⟩⟩
  rw [hLn]
  clear hr hb hL hLn h1 h2
  go_wp2
  go_ret
  exact HP.out
end Go.Proofs.Ythnimpbcfegmjaa.Own

/-
  Drops in memory: rows of two cells; which of two comes ahead; the methods behind the heap's interface.
-/
import Derived.Test.YtdkmmfhieapbaaaPx0
import Derived.Test.YtdkmmfhieapbaaaPlain
namespace Go.Proofs.Ytdkmmfhieapbaaa.Own
open Go.RowKit Go.Proofs.YtdkmmfhieapbaaaW.PrintWords Go.Proofs.YtdkmmfhieapbaaaW.PrintLast Go.Proofs.Ytdkmmfhieapbaaa.P Go.Proofs.Ytdkmmfhieapbaaa.Plain
set_option linter.unusedVariables false

def ltB (a b : S24) : Bool := decide (a.f0 < b.f0) || (decide (a.f0 = b.f0) && decide (a.f1 < b.f1))
theorem ltB_iff (a b : S24) : ltB a b = true ↔ a.f0 < b.f0 ∨ a.f0 = b.f0 ∧ a.f1 < b.f1 := by simp [ltB]
theorem ltB_no (a b : S24) : ltB a b = false ↔ ¬ (a.f0 < b.f0 ∨ a.f0 = b.f0 ∧ a.f1 < b.f1) := by rw [← ltB_iff, Bool.not_eq_true]
theorem ltO : LO ltB where
  irr a := by rw [ltB_no]; omega
  tr a b c h1 h2 := by rw [ltB_iff] at *; omega
  tot a b h1 h2 := by
    rw [ltB_no] at *
    cases a; cases b
    simp only at *
    congr 1 <;> omega

set_option maxRecDepth 100000 in
set_option maxHeartbeats 4000000 in
theorem before_calls (a b : S24) (w : World) : Calls Try.prog 10 #[.agg #[.int .i64 a.f0, .int .u64 a.f1], .agg #[.int .i64 b.f0, .int .u64 b.f1]] w fun e w' => e = .returned (.bool (ltB a b)) ∧ Below w.heap.size w w' := by
  by_cases h : a.f0 < b.f0
  · have e : ltB a b = true := by rw [ltB_iff]; exact .inl h
    rw [e]
    have h1 : decide (a.f0 < b.f0) = true := decide_eq_true h
    clear e
    go_enter Try.func10, Try.ntmps10
    go_wp2
    go_ret
    exact ⟨rfl, (((Below.refl _ _).alloc (Nat.le_refl _) _).alloc (by simp) _)⟩
  · have h1 : decide (a.f0 < b.f0) = false := decide_eq_false h
    by_cases h' : a.f0 = b.f0
    · have e : ltB a b = decide (a.f1 < b.f1) := by unfold ltB; simp [h']
      rw [e]
      have h2 : (a.f0 == b.f0) = true := by simp [h']
      clear e h'
      go_enter Try.func10, Try.ntmps10
      go_wp2
      go_ret
      exact ⟨rfl, (((Below.refl _ _).alloc (Nat.le_refl _) _).alloc (by simp) _)⟩
    · have e : ltB a b = false := by unfold ltB; simp [h', h1]
      rw [e]
      have h2 : (a.f0 == b.f0) = false := by simp [h']
      clear e h'
      go_enter Try.func10, Try.ntmps10
      go_wp2
      go_ret
      exact ⟨rfl, (((Below.refl _ _).alloc (Nat.le_refl _) _).alloc (by simp) _)⟩

/-- Drops' cells. -/
def cl (xs : List S24) : List Value := xs.flatMap (fun d => [.int .i64 d.f0, .int .u64 d.f1])
theorem cl_length (xs : List S24) : (cl xs).length = xs.length * 2 := by
  induction xs with
  | nil => rfl
  | cons x xs ih => simp [cl] at *; omega
theorem cl_append (xs ys : List S24) : cl (xs ++ ys) = cl xs ++ cl ys := by simp [cl]
theorem cl_get {xs : List S24} {i : Nat} {a : S24} (h : xs[i]? = some a) : (cl xs)[2 * i]? = some (.int .i64 a.f0) ∧ (cl xs)[2 * i + 1]? = some (.int .u64 a.f1) := by
  induction xs generalizing i with
  | nil => simp at h
  | cons x xs ih =>
    cases i with
    | zero => obtain rfl : x = a := by simpa using h
              exact ⟨rfl, rfl⟩
    | succ i => exact ih (by simpa using h)
theorem cl_set (xs : List S24) (i : Nat) (a : S24) : cl (xs.set i a) = ((cl xs).set (2 * i) (.int .i64 a.f0)).set (2 * i + 1) (.int .u64 a.f1) := by
  induction xs generalizing i with
  | nil => simp [cl]
  | cons x xs ih =>
    cases i with
    | zero => simp [cl]
    | succ i =>
      have e1 : 2 * (i + 1) = 2 * i + 1 + 1 := by omega
      have := ih i
      simp only [cl, List.set_cons_succ, List.flatMap_cons, List.cons_append, List.nil_append] at *
      rw [this, e1]
      rfl
theorem cl_take (xs : List S24) (n : Nat) : cl (xs.take n) = (cl xs).take (n * 2) := by
  induction xs generalizing n with
  | nil => simp [cl]
  | cons x xs ih =>
    cases n with
    | zero => simp [cl]
    | succ n =>
      have e1 : (n + 1) * 2 = n * 2 + 1 + 1 := by omega
      have := ih n
      simp only [cl, List.take_succ_cons, List.flatMap_cons, List.cons_append, List.nil_append] at *
      rw [this, e1]
      rfl

/-- A row of drops of the call's own. -/
def Row (w : World) (base : Nat) (v : Value) (xs : List S24) : Prop := w.ownsRow base 24 2 v xs.length (cl xs)

/-! the methods -/
theorem m_push (a : Addr) (w : World) : (method 184 50 (.pointer (some a)) "Push").run Try.prog w = .ok (48, .pointer (some a)) w := by kernel_rfl
theorem m_pop (a : Addr) (w : World) : (method 184 50 (.pointer (some a)) "Pop").run Try.prog w = .ok (47, .pointer (some a)) w := by kernel_rfl
theorem m_len (a : Addr) (w : World) : (method 184 50 (.pointer (some a)) "Len").run Try.prog w = ((loadVar 46 a).run Try.prog w).andThen fun v w₁ => .ok ((42 : FuncId), v) w₁ := by
  have e : (method 184 50 (.pointer (some a)) "Len").run Try.prog w = (loadVar 46 a >>= fun v => pure ((42 : FuncId), v) : Sem (FuncId × Value)).run Try.prog w := by kernel_rfl
  rw [e, Sem.run_bind]
  rfl
theorem m_less (a : Addr) (w : World) : (method 184 50 (.pointer (some a)) "Less").run Try.prog w = ((loadVar 46 a).run Try.prog w).andThen fun v w₁ => .ok ((45 : FuncId), v) w₁ := by
  have e : (method 184 50 (.pointer (some a)) "Less").run Try.prog w = (loadVar 46 a >>= fun v => pure ((45 : FuncId), v) : Sem (FuncId × Value)).run Try.prog w := by kernel_rfl
  rw [e, Sem.run_bind]
  rfl
theorem m_swap (a : Addr) (w : World) : (method 184 50 (.pointer (some a)) "Swap").run Try.prog w = ((loadVar 46 a).run Try.prog w).andThen fun v w₁ => .ok ((46 : FuncId), v) w₁ := by
  have e : (method 184 50 (.pointer (some a)) "Swap").run Try.prog w = (loadVar 46 a >>= fun v => pure ((46 : FuncId), v) : Sem (FuncId × Value)).run Try.prog w := by kernel_rfl
  rw [e, Sem.run_bind]
  rfl
theorem n_push (a : Addr) (w : World) : (nilAhead 184 50 (.pointer (some a)) "Push").run Try.prog w = .ok (some false) w := by kernel_rfl
theorem n_pop (a : Addr) (w : World) : (nilAhead 184 50 (.pointer (some a)) "Pop").run Try.prog w = .ok (some false) w := by kernel_rfl
theorem n_len (a : Addr) (w : World) : (nilAhead 184 50 (.pointer (some a)) "Len").run Try.prog w = .ok (some false) w := by kernel_rfl
theorem n_less (a : Addr) (w : World) : (nilAhead 184 50 (.pointer (some a)) "Less").run Try.prog w = .ok (some false) w := by kernel_rfl
theorem n_swap (a : Addr) (w : World) : (nilAhead 184 50 (.pointer (some a)) "Swap").run Try.prog w = .ok (some false) w := by kernel_rfl

theorem len_calls (A : Option Addr) (n c : Nat) (w : World) : Calls Try.prog 42 #[.slice A n c] w fun e w' => e = .returned (.int .i64 n) ∧ w = w' := by
  go_enter Try.func42, Try.ntmps42
  go_wp2
  go_ret
  exact ⟨rfl, rfl⟩
end Go.Proofs.Ytdkmmfhieapbaaa.Own

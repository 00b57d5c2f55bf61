/-
  degree.Weights and degree.Table, each call's answer, in the print's form.
-/
import Derived.Test.YtjgcfdiicjbdoaaColl
namespace Go.Proofs.Ytjgcfdiicjbdoaa.Own
open Go.RowKit Go.Shelf Go.Proofs.YtjgcfdiicjbdoaaW.PrintWords Go.Proofs.YtjgcfdiicjbdoaaW.PrintLast Go.Proofs.Ytjgcfdiicjbdoaa.P Go.Proofs.Ytjgcfdiicjbdoaa.Pure

def degree_Weights.f (a0 : Int) : Option (List Int × Int) :=
  if 1 ≤ a0 ∧ a0 ≤ 64 then (degree_root.f 17 a0).bind fun t => some (wl a0.toNat t.toNat, 0) else some ([], 2)
def degree_Table.f (a0 : Int) : Option (List Int × Int) :=
  if 1 ≤ a0 ∧ a0 ≤ 64 then (degree_root.f 17 a0).bind fun t => some ((rs (wl a0.toNat t.toNat)).1, 0) else some ([], 2)

theorem sized_false (a0 : Int) (h : ¬ (1 ≤ a0 ∧ a0 ≤ 64)) : degree_sized.f a0 = some false := by
  unfold degree_sized.f
  by_cases h1 : a0 ≥ 1
  · rw [if_pos h1, decide_eq_false (by omega)]
  · rw [if_neg h1]

/-- The root, of a number that is a block count. -/
theorem root_here (a0 : Int) (h : 1 ≤ a0 ∧ a0 ≤ 64) : ∃ t : Nat, degree_root.f 17 a0 = some (t : Int) ∧ IsRoot a0 t := by
  obtain ⟨r, hr, it⟩ := root_f a0 (by omega) (by omega) 17 (by decide)
  obtain ⟨t, rfl⟩ := Int.eq_ofNat_of_zero_le it.1
  exact ⟨t, hr, it⟩
theorem wl_length (k t : Nat) : (wl k t).length = k := by simp [wl]

theorem R_of_owns {w : World} {base : Nat} {v : Value} {k : Nat} {xs : List Int} (hl : xs.length = k) (h : w.ownsRow base 23 1 v k (xs.map (Value.int .u64))) : Kd.R (Kd.int .u64) 23 w base (fun _ => True) v xs := by
  subst hl
  exact Kd.R_of_own h (fun _ _ => trivial)

set_option maxHeartbeats 4000000 in
set_option maxRecDepth 100000 in
theorem degree_Weights.calls (a0 : Int) (r1 : List Int) (r2 : Int) (w : World) (h : degree_Weights.f a0 = some (r1, r2)) :
    Calls Try.prog 12 #[.int .i64 a0] w fun e w' => ∃ v0_ : Value, e = .returned (.tuple #[v0_, .int .i64 r2]) ∧ Kd.R (Kd.int .u64) 23 w' w.heap.size (fun _ => True) v0_ r1 ∧ Below w.heap.size w w' := by
  unfold degree_Weights.f at h
  by_cases hs : 1 ≤ a0 ∧ a0 ≤ 64
  · rw [if_pos hs] at h
    obtain ⟨t, ht, it⟩ := root_here a0 hs
    rw [ht, Option.bind_some] at h
    obtain ⟨k, rfl⟩ := Int.eq_ofNat_of_zero_le (show 0 ≤ a0 by omega)
    have h' := Option.some.inj h
    injection h' with h1 h2
    subst h1 h2
    refine (callsIn_wide.1 (weightsF_in 5 (by omega) k t (by omega) (by omega) ht it w)).mono ?_
    rintro e w' ⟨v, rfl, hr, hb⟩
    exact ⟨v, rfl, R_of_owns (by simp [wl]) hr, hb⟩
  · rw [if_neg hs] at h
    have h' := Option.some.inj h
    injection h' with h1 h2
    subst h1 h2
    have hz := sized_false a0 hs
    clear h
    go_enter Try.func12, Try.ntmps12
    go_wp2_with (go_at_call 21; refine (degree_sized.calls a0 false _ hz).mono ?_; rintro e w' ⟨rfl, ⟨nd, rfl⟩⟩)
    go_ret2
    exact ⟨_, rfl, Kd.R_nil _ _ _ _ _, (Drawn0.mk ⟨nd, rfl⟩ : Drawn0 w (w.drewN nd)).below⟩

set_option maxHeartbeats 4000000 in
set_option maxRecDepth 100000 in
theorem degree_Table.calls (a0 : Int) (r1 : List Int) (r2 : Int) (w : World) (h : degree_Table.f a0 = some (r1, r2)) :
    Calls Try.prog 13 #[.int .i64 a0] w fun e w' => ∃ v0_ : Value, e = .returned (.tuple #[v0_, .int .i64 r2]) ∧ Kd.R (Kd.int .u64) 23 w' w.heap.size (fun _ => True) v0_ r1 ∧ Below w.heap.size w w' := by
  unfold degree_Table.f at h
  by_cases hs : 1 ≤ a0 ∧ a0 ≤ 64
  · rw [if_pos hs] at h
    obtain ⟨t, ht, it⟩ := root_here a0 hs
    rw [ht, Option.bind_some] at h
    obtain ⟨k, rfl⟩ := Int.eq_ofNat_of_zero_le (show 0 ≤ a0 by omega)
    have h' := Option.some.inj h
    injection h' with h1 h2
    subst h1 h2
    refine (callsIn_wide.1 (table_in 5 (by omega) k t (by omega) (by omega) ht it w)).mono ?_
    rintro e w' ⟨v, rfl, hr, hb⟩
    exact ⟨v, rfl, R_of_owns (by rw [rs_len]; simp [wl]) hr, hb⟩
  · rw [if_neg hs] at h
    have h' := Option.some.inj h
    injection h' with h1 h2
    subst h1 h2
    have hz := sized_false a0 hs
    clear h
    go_enter Try.func13, Try.ntmps13
    go_wp2_with (go_at_call 21; refine (degree_sized.calls a0 false _ hz).mono ?_; rintro e w' ⟨rfl, ⟨nd, rfl⟩⟩)
    go_ret2
    exact ⟨_, rfl, Kd.R_nil _ _ _ _ _, (Drawn0.mk ⟨nd, rfl⟩ : Drawn0 w (w.drewN nd)).below⟩

end Go.Proofs.Ytjgcfdiicjbdoaa.Own

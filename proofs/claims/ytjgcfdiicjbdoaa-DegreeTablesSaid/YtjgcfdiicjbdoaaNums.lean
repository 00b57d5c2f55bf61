/-
  The weights and tables of 1 to 64 blocks, by their numbers: they are the reference's, no weight is zero, and the sums rise. For every such number of blocks.
-/
import Derived.Test.YtjgcfdiicjbdoaaDeg
import Derived.Test.YtjgcfdiicjbdoaaPx6
namespace Go.Proofs.Ytjgcfdiicjbdoaa.Pure
open Go.RowKit Go.Proofs.Ytjgcfdiicjbdoaa.Own Go.Proofs.Ytjgcfdiicjbdoaa.P Go.Proofs.YtjgcfdiicjbdoaaW.PrintWords Go.Proofs.YtjgcfdiicjbdoaaW.PrintLast

def risesB : List Int → Bool
  | [] => true
  | [_] => true
  | a :: b :: l => decide (a < b) && risesB (b :: l)
theorem risesB_rises : ∀ l : List Int, risesB l = true → rises l
  | [], _ => fun j hj => by simp at hj
  | [_], _ => fun j hj => by simp at hj
  | a :: b :: l, h => by
    simp only [risesB, Bool.and_eq_true, decide_eq_true_eq] at h
    intro j hj
    cases j with
    | zero => simpa using h.1
    | succ j => simpa using risesB_rises (b :: l) h.2 j (by simpa using hj)

def chkT (k : Nat) (t : Int) : Bool :=
  decide (downpourref07_Weights.f 100 k = some (wl k t.toNat)) && (decide (downpourref07_Table.f 100 k = some (rs (wl k t.toNat)).1) && (risesB (rs (wl k t.toNat)).1 && ((wl k t.toNat).all (fun x => decide (0 < x)) && ((rs (wl k t.toNat)).1.all (fun x => decide (0 < x)) &&
    ((rs (wl k t.toNat)).1.all (fun x => decide (x ≤ 18446744073709551615)) && (decide (t * t ≤ k) && decide ((t + 1) * (t + 1) > k) && decide (0 ≤ t)))))))
def chk (k : Nat) : Bool :=
  match degree_root.f 17 k with
  | some t => chkT k t
  | none => false
theorem chk_all : ∀ k, k < 64 → chk (k + 1) = true := by decide +kernel
/-- What the numbers say. -/
structure Facts (k : Nat) (t : Int) : Prop where
  root : degree_root.f 17 k = some t
  weights : downpourref07_Weights.f 100 k = some (wl k t.toNat)
  table : downpourref07_Table.f 100 k = some (rs (wl k t.toNat)).1
  rises : rises (rs (wl k t.toNat)).1
  pos : ∀ x ∈ wl k t.toNat, 0 < x
  sums : ∀ x ∈ (rs (wl k t.toNat)).1, 0 < x
  low : ∀ x ∈ (rs (wl k t.toNat)).1, x ≤ 18446744073709551615
  sq : t * t ≤ k
  sq1 : (t + 1) * (t + 1) > k
  nonneg : 0 ≤ t
theorem facts (k : Nat) (h1 : 1 ≤ k) (h2 : k ≤ 64) : ∃ t, Facts k t := by
  obtain ⟨j, rfl⟩ : ∃ j, k = j + 1 := ⟨k - 1, by omega⟩
  have h := chk_all j (by omega)
  unfold chk at h
  split at h
  · rename_i t ht
    refine ⟨t, ?_⟩
    unfold chkT at h
    simp only [Bool.and_eq_true, decide_eq_true_eq, List.all_eq_true] at h
    obtain ⟨a, b, c, d, e, e2, ⟨f, g⟩, i⟩ := h
    exact ⟨ht, a, b, risesB_rises _ c, d, e, e2, f, g, i⟩
  · cases h
end Go.Proofs.Ytjgcfdiicjbdoaa.Pure

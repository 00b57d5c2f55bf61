/-
  The heap's rows in memory: what a call has turned (Fr), Less and Swap of rows, walked by hand.
-/
import Derived.Test.YtdkmmfhieapbaaaWork0
namespace Go.Proofs.Ytdkmmfhieapbaaa.Own
open Go.RowKit Go.Proofs.YtdkmmfhieapbaaaW.PrintWords Go.Proofs.YtdkmmfhieapbaaaW.PrintLast Go.Proofs.Ytdkmmfhieapbaaa.P Go.Proofs.Ytdkmmfhieapbaaa.Plain
set_option linter.unusedVariables false

/-- Of what was there, the blocks that are ok alone may have turned. -/
structure Fr (w w' : World) (ok : Nat → Prop) : Prop where
  os : w'.os = w.os
  tape : w'.tape = w.tape
  output : w'.output = w.output
  size : w.heap.size ≤ w'.heap.size
  block : ∀ k, k < w.heap.size → ¬ ok k → w'.heap[k]? = w.heap[k]?
namespace Fr
variable {w w1 w2 : World} {ok ok' : Nat → Prop}
theorem refl (w : World) (ok : Nat → Prop) : Fr w w ok := ⟨rfl, rfl, rfl, Nat.le_refl _, fun _ _ _ => rfl⟩
theorem trans (h : Fr w w1 ok) (k : Fr w1 w2 ok') (hk : ∀ i, i < w.heap.size → ok' i → ok i) : Fr w w2 ok :=
  ⟨k.os.trans h.os, k.tape.trans h.tape, k.output.trans h.output, Nat.le_trans h.size k.size, fun i hi hn => (k.block i (Nat.lt_of_lt_of_le hi h.size) (fun e => hn (hk i hi e))).trans (h.block i hi hn)⟩
theorem mono (h : Fr w w1 ok) (hk : ∀ i, i < w.heap.size → ok i → ok' i) : Fr w w1 ok' := ⟨h.os, h.tape, h.output, h.size, fun i hi hn => h.block i hi (fun e => hn (hk i hi e))⟩
theorem of_below (h : Below w.heap.size w w1) (ok : Nat → Prop) : Fr w w1 ok := ⟨h.os, h.tape, h.output, h.size, fun i hi _ => h.block i hi⟩
theorem of_grown {row : Option Nat} (h : w.grownBy w1 row) : Fr w w1 (fun k => some k = row) := ⟨h.os, h.tape, h.output, h.size, fun i hi hn => h.block i hi hn⟩
theorem below {B : Nat} (h : Fr w w1 ok) (hB : B ≤ w.heap.size) (hk : ∀ i, i < w.heap.size → ok i → B ≤ i) : Below B w w1 := ⟨h.os, h.tape, h.output, h.size, fun i hi => h.block i (by omega) (fun e => by have := hk i (by omega) e; omega)⟩
theorem drew (h : Fr w w1 ok) : Fr w w1.drew ok := ⟨h.os, h.tape, h.output, h.size, h.block⟩
theorem alloc (h : Fr w w1 ok) (o : Obj) : Fr w (w1.alloc o) ok := h.trans (of_below ((Below.refl w1.heap.size w1).alloc (Nat.le_refl _) o) ok) (fun _ _ e => e)
theorem set (h : Fr w w1 ok) {p : Addr} (u : Value) (hp : p.block < w.heap.size → ok p.block) : Fr w (w1.setCell p u) ok :=
  h.trans (ok' := fun k => k = p.block) ⟨rfl, rfl, rfl, by simp [World.setCell], fun k hk hn => Below.heap_setCell _ _ _ _ hn⟩ (fun i hi e => e ▸ hp (by omega))
theorem setg {g : Nat} (h : Fr w w1 (fun k => k = g)) (j : Nat) (u : Value) : Fr w (w1.setCell ⟨g, j, none⟩ u) (fun k => k = g) := h.set (p := ⟨g, j, none⟩) u (fun _ => rfl)
theorem blk (h : Fr w w1 ok) {g : Nat} {o : Obj} (hb : w.heap[g]? = some o) (hn : ¬ ok g) : w1.heap[g]? = some o := (h.block g (blk_lt hb) hn).trans hb
theorem own (h : Fr w w1 ok) {base n size : Nat} {e : TypeId} {v : Value} {xs : List Value} (ho : w.ownsRow base e size v n xs) (hn : ∀ k, v.ownBlock = some k → ¬ ok k) : w1.ownsRow base e size v n xs :=
  own_move ho (fun k hk => h.block k (own_lt ho k hk) (hn k hk))
end Fr

theorem drew_tr {w w' : World} (h : Below w.drew.heap.size w.drew w') : Below w.heap.size w w' := ⟨h.os, h.tape, h.output, h.size, h.block⟩
theorem bcell {W w1 : World} (hb : Below W.heap.size W w1) : (∀ b o, b < W.heap.size → w1.cell? ⟨b, o, none⟩ = W.cell? ⟨b, o, none⟩) ∧ (∀ b o, b < W.heap.size → w1.frozen? ⟨b, o, none⟩ = W.frozen? ⟨b, o, none⟩) :=
  ⟨fun b o h => hb.cell (p := ⟨b, o, none⟩) h, fun b o h => hb.frozen (p := ⟨b, o, none⟩) h⟩

theorem own_open {w : World} {base g n c size : Nat} {e : TypeId} {xs : List Value} (h : w.ownsRow base e size (.slice (some ⟨g, 0, none⟩) n c) n xs) :
    ∃ cur, base ≤ g ∧ w.heap[g]? = some (.cells cur e (0, 0)) ∧ n ≤ c ∧ c ≤ maxLen ∧ cur.size = c * size ∧ cur.toList.take (n * size) = xs := by
  rcases h.2 with ⟨h1, _⟩ | ⟨g', cap, cur, h1, h2, h3, h4, h5, h6, h7⟩
  · cases h1
  · cases h1
    exact ⟨cur, h2, h3, h4, h5, h6, h7⟩
theorem own_cell {w : World} {base g n c size : Nat} {e : TypeId} {xs : List Value} (h : w.ownsRow base e size (.slice (some ⟨g, 0, none⟩) n c) n xs) {j : Nat} {u : Value} (hj : xs[j]? = some u) : w.cell? ⟨g, j, none⟩ = some u := by
  obtain ⟨cur, _, hb, _, _, _, ht⟩ := own_open h
  rw [blk_cell hb, ← Array.getElem?_toList]
  rw [← ht, List.getElem?_take] at hj
  split at hj
  · exact hj
  · cases hj
theorem own_set {w : World} {base g n c size : Nat} {e : TypeId} {xs : List Value} (h : w.ownsRow base e size (.slice (some ⟨g, 0, none⟩) n c) n xs) (j : Nat) (u : Value) :
    (w.setCell ⟨g, j, none⟩ u).ownsRow base e size (.slice (some ⟨g, 0, none⟩) n c) n (xs.set j u) := by
  obtain ⟨cur, h1, hb, h2, h3, h4, ht⟩ := own_open h
  refine ⟨by rw [List.length_set]; exact h.1, .inr ⟨g, c, cur.setIfInBounds j u, rfl, h1, blk_set hb j u, h2, h3, by simpa using h4, ?_⟩⟩
  rw [Array.toList_setIfInBounds, List.take_set, ht]
theorem own_drew {w : World} {base n size : Nat} {e : TypeId} {v : Value} {xs : List Value} (h : w.ownsRow base e size v n xs) : w.drew.ownsRow base e size v n xs := h

theorem row_cell {w : World} {base : Nat} {g c : Nat} {xs : List S24} (h : Row w base (.slice (some ⟨g, 0, none⟩) xs.length c) xs) {i : Nat} {a : S24} (hi : xs[i]? = some a) :
    w.cell? ⟨g, i * 2, none⟩ = some (.int .i64 a.f0) ∧ w.cell? ⟨g, i * 2 + 1, none⟩ = some (.int .u64 a.f1) := by
  obtain ⟨h1, h2⟩ := cl_get hi
  rw [Nat.mul_comm] at h1 h2
  exact ⟨own_cell h h1, own_cell h h2⟩
/-- A drop is stored. -/
theorem row_put {w : World} {base : Nat} {g c : Nat} {xs : List S24} (h : Row w base (.slice (some ⟨g, 0, none⟩) xs.length c) xs) (i : Nat) (a : S24) :
    Row ((w.setCell ⟨g, i * 2, none⟩ (.int .i64 a.f0)).setCell ⟨g, i * 2 + 1, none⟩ (.int .u64 a.f1)) base (.slice (some ⟨g, 0, none⟩) xs.length c) (xs.set i a) := by
  unfold Row
  rw [List.length_set, cl_set, Nat.mul_comm]
  exact own_set (own_set h _ _) _ _

set_option maxRecDepth 100000 in
set_option maxHeartbeats 4000000 in
theorem less_calls (g c base : Nat) (xs : List S24) (w : World) (h : Row w base (.slice (some ⟨g, 0, none⟩) xs.length c) xs) (i j : Nat) (a b : S24) (hi : xs[i]? = some a) (hj : xs[j]? = some b) (hm : xs.length ≤ 100000) :
    Calls Try.prog 45 #[.slice (some ⟨g, 0, none⟩) xs.length c, .int .i64 i, .int .i64 j] w fun e w' => e = .returned (.bool (ltB a b)) ∧ Below w.heap.size w w' := by
  obtain ⟨a0, a1⟩ := row_cell h hi
  obtain ⟨b0, b1⟩ := row_cell h hj
  have hi1 := (List.getElem?_eq_some_iff.1 hi).1
  have hj1 := (List.getElem?_eq_some_iff.1 hj).1
  have hi2 : (i : Int) < xs.length := by omega
  have hj2 : (j : Int) < xs.length := by omega
  have hi3 : (0 : Int) ≤ i := by omega
  have hj3 : (0 : Int) ≤ j := by omega
  have hg : g < w.heap.size := World.block_lt_of_cell? w _ a0
  clear h hi hj
  obtain ⟨n, hn⟩ : ∃ n, n = xs.length := ⟨_, rfl⟩
  rw [← hn] at hi2 hj2 ⊢
  clear hi1 hj1 hm hn
  go_enter Try.func45, Try.ntmps45
  go_wp2
  go_region_held3 (fun w' => w'.cell? ⟨g, i * 2, none⟩ = some (.int .i64 a.f0) ∧ w'.cell? ⟨g, i * 2 + 1, none⟩ = some (.int .u64 a.f1) ∧ w'.cell? ⟨g, j * 2, none⟩ = some (.int .i64 b.f0) ∧ w'.cell? ⟨g, j * 2 + 1, none⟩ = some (.int .u64 b.f1)) (go_keep) ((go_at_call 10; refine (before_calls a b _).mono ?_; rintro e w' ⟨rfl, hb⟩; obtain ⟨hc1, -⟩ := bcell hb; replace a0 := (hc1 g _ hg).trans a0; replace a1 := (hc1 g _ hg).trans a1; replace b0 := (hc1 g _ hg).trans b0; replace b1 := (hc1 g _ hg).trans b1; clear hc1))
  all_goals (go_wp2; go_ret; refine ⟨rfl, ?_⟩; exact drew_tr hb)

set_option maxRecDepth 100000 in
set_option maxHeartbeats 4000000 in
theorem swap_calls (g c base : Nat) (xs : List S24) (w : World) (h : Row w base (.slice (some ⟨g, 0, none⟩) xs.length c) xs) (i j : Nat) (a b : S24) (hi : xs[i]? = some a) (hj : xs[j]? = some b) (hm : xs.length ≤ 100000) :
    Calls Try.prog 46 #[.slice (some ⟨g, 0, none⟩) xs.length c, .int .i64 i, .int .i64 j] w fun e w' => e = .returned (.tuple #[]) ∧ Row w' base (.slice (some ⟨g, 0, none⟩) xs.length c) (sw xs i j a b) ∧ Fr w w' (fun k => k = g) := by
  obtain ⟨a0, a1⟩ := row_cell h hi
  obtain ⟨b0, b1⟩ := row_cell h hj
  have hi1 := (List.getElem?_eq_some_iff.1 hi).1
  have hj1 := (List.getElem?_eq_some_iff.1 hj).1
  have hi2 : (i : Int) < xs.length := by omega
  have hj2 : (j : Int) < xs.length := by omega
  have hi3 : (0 : Int) ≤ i := by omega
  have hj3 : (0 : Int) ≤ j := by omega
  obtain ⟨cur, _, hb, _⟩ := own_open h
  have qf : ∀ k, w.frozen? ⟨g, k, none⟩ = false := fun k => blk_frozen hb k
  have HW : Aside0 (Row ((((w.setCell ⟨g, i * 2, none⟩ (.int .i64 b.f0)).setCell ⟨g, i * 2 + 1, none⟩ (.int .u64 b.f1)).setCell ⟨g, j * 2, none⟩ (.int .i64 a.f0)).setCell ⟨g, j * 2 + 1, none⟩ (.int .u64 a.f1)) base (.slice (some ⟨g, 0, none⟩) xs.length c) (sw xs i j a b)) := ⟨by
    have h1 := row_put h i b
    have h2 : xs.length = (xs.set i b).length := by simp
    rw [h2] at h1
    have h3 := row_put h1 j a
    rw [← h2] at h3
    exact h3⟩
  have HF : Aside0 (Fr w ((((w.setCell ⟨g, i * 2, none⟩ (.int .i64 b.f0)).setCell ⟨g, i * 2 + 1, none⟩ (.int .u64 b.f1)).setCell ⟨g, j * 2, none⟩ (.int .i64 a.f0)).setCell ⟨g, j * 2 + 1, none⟩ (.int .u64 a.f1)) (fun k => k = g)) := ⟨Fr.setg (Fr.setg (Fr.setg (Fr.setg (Fr.refl w _) _ _) _ _) _ _) _ _⟩
  by_cases e : i = j
  · subst e
    obtain rfl : a = b := by rw [hi] at hj; exact Option.some.inj hj
    clear h b0 b1 hb hi hj
    go_enter Try.func46, Try.ntmps46
    go_region
    all_goals (go_wp2; go_end0; exact ⟨rfl, HW.out, HF.out.drew⟩)
  · have e2 : ¬ (j * 2 = i * 2) := by omega
    have e3 : ¬ (j * 2 + 1 = i * 2) := by omega
    have e4 : ¬ (j * 2 = i * 2 + 1) := by omega
    have e5 : ¬ (i * 2 = j * 2) := by omega
    have e6 : ¬ (i * 2 = j * 2 + 1) := by omega
    have e7 : ¬ (i * 2 + 1 = j * 2) := by omega
    clear h hb hi hj
    go_enter Try.func46, Try.ntmps46
    go_region
    all_goals (go_wp2; go_end0; exact ⟨rfl, HW.out, HF.out.drew⟩)
end Go.Proofs.Ytdkmmfhieapbaaa.Own

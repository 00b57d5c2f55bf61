/-
  downpourlaw20.few, walked by hand.
-/
import Derived.Test.YthnimpbcfegmjaaS14
import Derived.Laws.EntriesVeiled
import Derived.Test.YthnimpbcfegmjaaPx2
namespace Go.Proofs.Ythnimpbcfegmjaa.Own
open Go.RowKit Go.Proofs.YthnimpbcfegmjaaW.PrintWords Go.Proofs.YthnimpbcfegmjaaW.PrintLast Go.Proofs.YthnimpbcfegmjaaW.PrintMore Go.Proofs.Ythnimpbcfegmjaa.P Go.Proofs.Ythnimpbcfegmjaa.Model
set_option linter.unusedVariables false
set_option linter.unusedSimpArgs false
attribute [local go_sem] max2_int min2_int max_two min_two max_three min_three max_four min_four

def rowsL (l : List (List S44)) : List (List S44) := (l.take 10).map (fun t => t.take 18)
def cut12 (l : List Int) : List Int := l.take 12
theorem cut12_len (l : List Int) : (cut12 l).length = min l.length 12 := by unfold cut12; rw [List.length_take]; omega
def fewS (s : Syst) : Syst := ⟨rowsL s.th, cut12 s.at_, cut12 s.su, cut12 s.lo, cut12 s.ce, (s.ch.take 6).map cut12⟩
theorem mn_nat (n m : Nat) : mn (n : Int) (m : Int) = ((min n m : Nat) : Int) := by
  unfold mn
  split <;> omega
theorem take_min {α : Type} (l : List α) (m : Nat) : l.take (min l.length m) = l.take m := by
  rw [Nat.min_comm, List.take_eq_take_iff]
  omega
theorem rows_loop (l : List (List S44)) (hl : l.length ≤ 10) : ∀ (n i k : Nat) (x : List (List S44)), n = l.length - i → i ≤ l.length → n < k → x.length ≤ i → downpourlaw20_rows.l0 k x l (l.length : Int) (i : Int) = some (x ++ (l.drop i).map (fun t => t.take 18)) := by
  intro n
  induction n with
  | zero =>
    intro i k x hn hi hk hx
    obtain ⟨k, rfl⟩ : ∃ k', k = k' + 1 := ⟨k - 1, by omega⟩
    unfold downpourlaw20_rows.l0
    rw [if_neg (by omega), List.drop_eq_nil_of_le (by omega)]
    simp
  | succ n ih =>
    intro i k x hn hi hk hx
    obtain ⟨k, rfl⟩ : ∃ k', k = k' + 1 := ⟨k - 1, by omega⟩
    unfold downpourlaw20_rows.l0
    have hlt : i < l.length := by omega
    have e1 : rd_L2 l (i : Int) = l[i] := by unfold rd_L2; rw [Int.toNat_natCast, List.getD_eq_getElem?_getD, List.getElem?_eq_getElem hlt]; rfl
    have e2 : mn ((l[i].length : Nat) : Int) 18 = ((min l[i].length 18 : Nat) : Int) := mn_nat _ 18
    rw [if_pos (by omega), if_pos (by omega), if_pos (by omega), e1, e2, if_pos (by omega), if_pos (by omega), if_pos (by omega), Int.toNat_natCast, take_min]
    rw [show wrap64 ((i : Int) + 1) = ((i + 1 : Nat) : Int) by unfold wrap64; omega]
    rw [ih (i + 1) k _ (by omega) (by omega) (by omega) (by simp; omega), List.drop_eq_getElem_cons hlt, List.map_cons, List.append_assoc]
    rfl
theorem rows_f (l : List (List S44)) (k : Nat) (hk : 10 < k) : downpourlaw20_rows.f k l = some (rowsL l) := by
  unfold downpourlaw20_rows.f
  have e2 : mn ((l.length : Nat) : Int) 10 = ((min l.length 10 : Nat) : Int) := mn_nat _ 10
  rw [e2, if_pos (by omega), if_pos (by omega), Int.toNat_natCast, take_min, Option.bind_some]
  have hl : (l.take 10).length ≤ 10 := by rw [List.length_take]; omega
  rw [show (0 : Int) = ((0 : Nat) : Int) by rfl, rows_loop (l.take 10) hl (l.take 10).length 0 k [] rfl (Nat.zero_le _) (by omega) (by simp)]
  simp [rowsL]
theorem rowsL_len (l : List (List S44)) : (rowsL l).length ≤ 10 := by unfold rowsL; rw [List.length_map, List.length_take]; omega
set_option maxHeartbeats 4000000 in
theorem fewI_calls (A : Option Addr) (c : Nat) (l : List Int) (w : World) (hc : l.length ≤ c) : Calls Try.prog 31 #[.slice A l.length c] w fun e w' => e = .returned (.slice A (cut12 l).length c) ∧ w' = w := by
  obtain ⟨i, hi, hz0, -⟩ := info_parts info3
  have e1 := cut12_len l
  obtain ⟨n, hn⟩ : ∃ n : Nat, min l.length 12 = n := ⟨_, rfl⟩
  have qc := cut_to (P := Try.prog) 23 3 .i64 Try.underlying23 hi A l.length c (n : Int) (by omega) (by omega) hc
  have qm : (if 12 < (l.length : Int) then (12 : Int) else (l.length : Int)) = (n : Int) := by split <;> omega
  rw [Int.toNat_natCast] at qc
  rw [e1, hn]
  have HN := Aside0.mk hn
  clear hn e1
  go_enter Try.func31, Try.ntmps31
  go_wp2
  go_ret
  exact ⟨rfl, rfl⟩
section
variable {P : Program} {ops : Array Oper} {Q : Exit → Act → World → Prop}
/-- A call of a function value that lies in a slot. -/
theorem goesD_ {oi : Oper} {N : Option Tmp} {a : Act} {w : World} {K : Act → World → Prop} {f : FuncId} {fn : Func} {ars : Array Operand} {ts : Array TypeId} {o : Operand} (hf : P.funcs[f]? = some fn) (hname : (fn.name == "runtime.NumGoroutine") = false) (hb : fn.body.isSome = true) (args : Array Value)
    (hw : Region.wanted oi (yielded ops a.tmps) = true) (hN : oi.dst = N) (hop : oi.op = .call { callee := .value o, args := ars, argTypes := ts }) (ho : a.eval o = .func (.func f) #[] #[]) (hargs : ars.map a.eval = args)
    (h : Calls P f args w fun e w' => ∃ v, e = .returned v ∧ K (a.put N v) w') : if Region.wanted oi (yielded ops a.tmps) = true then Oper.wp P oi a w K Q else K (a.put N undef) w := by
  refine call_ f args hw hN ?_ h
  have he := enters_ hf hname hb args w
  unfold execOp
  simp [hop, resolve, Deferred.ofValue, invoke, ho, hargs, he]
end
theorem reads_cells {α : Type} {R R' : α → List Value → Prop} {size : Nat} {w w1 : World} {A : Option Addr} {n : Nat} {ps : List α} (h : ReadsRow R size w A n ps) (hb : ∀ {a : Addr} {v : Value}, w.cell? a = some v → w1.cell? a = some v) (hR : ∀ p c, R p c → R' p c) : ReadsRow R' size w1 A n ps := by
  refine ⟨h.1, h.2.1, fun hn => ?_⟩
  obtain ⟨ad, e, f⟩ := h.2.2 hn
  refine ⟨ad, e, fun j p hp => ?_⟩
  obtain ⟨c, h1, h2, h3⟩ := f j p hp
  exact ⟨c, h1, hR _ _ h2, fun i u hu => hb (h3 i u hu)⟩
theorem CT_cells {w w1 : World} {A : Option Addr} {xs : List (List S44)} (h : CT w A xs) (hb : ∀ {a : Addr} {v : Value}, w.cell? a = some v → w1.cell? a = some v) : CT w1 A xs := reads_cells h hb (fun _ _ hp => by
  obtain ⟨A0, c0, e, h1, h2⟩ := hp
  exact ⟨A0, c0, e, h1, reads_cells h2 hb (fun _ _ hp => hp)⟩)
/-- Outside the hidden blocks: a row as the printed contracts want it. -/
theorem V_of_hid {P : Nat → Bool} {w W : World} {A : Option Addr} {c base : Nat} {l : List (List S44)} (h : CT (hid P w) A l) (hc : l.length ≤ c) (hb : Below w.heap.size w W) : Kd.V (Kd.slice 44 k44) 42 W base (fun k => P k = false ∧ k < w.heap.size) (.slice A l.length c) l := by
  refine Kd.V_mk hc (fun W' hW => CT_cells h (fun {a v} ha => ?_))
  obtain ⟨h1, h2⟩ := hid_cell ha
  have hlt := World.block_lt_of_cell? w a h2
  exact (World.cell?_of_block (w := w) ((hW _ ⟨h1, hlt⟩ (Nat.lt_of_lt_of_le hlt hb.size)).trans (hb.block _ hlt))).trans h2
/-- And what they answer lies outside the hidden blocks. -/
theorem hid_of_N {P : Nat → Bool} {W : World} {ok : Nat → Prop} {base : Nat} {v : Value} {l : List (List S44)} (h : Kd.N (Kd.slice 44 k44) 42 W base ok v l) (hP : ∀ k, ok k → P k = false) : ∃ A c, v = .slice A l.length c ∧ l.length ≤ c ∧ CT (hid P W) A l := by
  obtain ⟨A, c, rfl, hc, -⟩ := Kd.N_reads h
  exact ⟨A, c, rfl, hc, Kd.N_F h _ (fun k hk _ => hid_at (hP k hk))⟩
end Go.Proofs.Ythnimpbcfegmjaa.Own

/-
  What the instructions do, walked by hand: in a system of the call's own.
-/
import Derived.Test.YthnimpbcfegmjaaS7
namespace Go.Proofs.Ythnimpbcfegmjaa.Own
open Go.RowKit Go.Proofs.YthnimpbcfegmjaaW.PrintWords Go.Proofs.YthnimpbcfegmjaaW.PrintLast Go.Proofs.YthnimpbcfegmjaaW.PrintMore Go.Proofs.Ythnimpbcfegmjaa.P Go.Proofs.Ythnimpbcfegmjaa.Model
set_option linter.unusedVariables false

theorem OwnS.set5 {w0 w : World} {b : Nat} {s : Syst} {p : Ad} {us : List Value} (h : OwnS w0 b w s p us) {g : Nat} (hg : p.a5 = some ⟨g, 0, none⟩) (k : Nat) (x' : List Int) (A : Option Addr) (c : Nat) (hx : x'.length ≤ c)
    (hr : CI w0 A x' ∨ (RowI w b (.slice A x'.length c) x' ∧ ob A ≠ some g)) : FinS w0 b (w.setCell ⟨g, k, none⟩ (.slice A x'.length c)) { s with ch := s.ch.set k x' } p (us.set k (.slice A x'.length c)) := by
  have hge : b ≤ g := by
    have h1 := h.r5
    rw [hg] at h1
    obtain ⟨_, h2, _⟩ := own_open h1
    exact h2
  have ho : ob p.a5 = some g := by rw [hg]; rfl
  refine ⟨h.th, h.h0, own_far h.r1 (nd2 h.d15 ho) _, own_far h.r2 (nd2 h.d25 ho) _, own_far h.r3 (nd2 h.d35 ho) _, own_far h.r4 (nd2 h.d45 ho) _, ?_, ?_, h.bel.setCell (Nat.le_trans h.ge hge) _, h.ge⟩
  · have h1 := h.r5
    rw [hg] at h1 ⊢
    show World.ownsRow _ _ _ _ (.slice _ (s.ch.set k x').length _) (s.ch.set k x').length _
    rw [List.length_set]
    exact own_set h1 k _
  · intro j x u hj hu
    rw [List.getElem?_set] at hj hu
    by_cases hkj : k = j
    · rw [if_pos hkj] at hj hu
      split at hj
      · split at hu
        · cases hj
          cases hu
          refine ⟨A, c, rfl, hx, ?_⟩
          rcases hr with hr | ⟨hr, hn⟩
          · exact .inl hr
          · exact .inr (own_far hr hn _)
        · cases hu
      · cases hj
    · rw [if_neg hkj] at hj hu
      obtain ⟨B, d, e, h1, h2⟩ := h.inn j x u hj hu
      exact ⟨B, d, e, h1, .inl h2⟩
theorem rowI_at {w : World} {b c : Nat} {A : Option Addr} {xs : List Int} (h : RowI w b (.slice A xs.length c) xs) (k : Nat) (x : Int) (hx : xs[k]? = some x) : ∃ g, A = some ⟨g, 0, none⟩ ∧ b ≤ g ∧ w.cell? ⟨g, k, none⟩ = some (.int .i64 x) ∧ w.frozen? ⟨g, k, none⟩ = false := by
  have hk := (List.getElem?_eq_some_iff.1 hx).1
  rcases h.2 with ⟨_, h1⟩ | ⟨g, cap, cur, h1, _⟩
  · omega
  · cases h1
    obtain ⟨cur, h2, h3, _⟩ := own_open h
    exact ⟨g, rfl, h2, own_cell h (nums_get hx), blk_frozen h3 k⟩
def DoP (w0 : World) (b : Nat) (s : Syst) (p : Ad) (w : World) (e : Ending) (w' : World) : Prop := ∃ us, e = .returned (.tuple #[]) ∧ FinS w0 b w' s p us ∧ Below b w w'
theorem below_put {b g k : Nat} {w W : World} (h : Below b w W) (hg : b ≤ g) (v : Value) : Below b w (W.setCell ⟨g, k, none⟩ v) := h.setCell hg _
theorem FinS.drew {w0 w : World} {b : Nat} {s : Syst} {p : Ad} {us : List Value} (h : FinS w0 b w s p us) : FinS w0 b w.drew s p us :=
  ⟨h.th, h.h0, h.r1, h.r2, h.r3, h.r4, h.r5, h.inn, h.bel.drew, h.ge⟩
theorem OwnS.drew {w0 w : World} {b : Nat} {s : Syst} {p : Ad} {us : List Value} (h : OwnS w0 b w s p us) : OwnS w0 b w.drew s p us :=
  h.below (below_drew (Below.refl _ _))
theorem DoP.drew {w0 w w' : World} {b : Nat} {s : Syst} {p : Ad} {e : Ending} (h : DoP w0 b s p w e w') : DoP w0 b s p w e w'.drew := by
  obtain ⟨us, e, h1, h2⟩ := h
  exact ⟨us, e, h1.drew, below_drew h2⟩
set_option maxRecDepth 100000 in
set_option maxHeartbeats 4000000 in
theorem lock_calls (w0 : World) (b : Nat) (s : Syst) (p : Ad) (us : List Value) (t : Nat) (na n : Int) (w : World) (hO : OwnS w0 b w s p us) (hi : okI ⟨0, na, n⟩ = true) (h4 : s.lo.length = 4) (hb : b ≤ w.heap.size) : Calls Try.prog 64 #[.agg (sysA s p), .int .i64 t, iv ⟨0, na, n⟩] w (DoP w0 b (doI s t ⟨0, na, n⟩) p w) := by
  obtain ⟨_, _, h1, h2, _⟩ := okI_bounds hi
  dsimp only at h1 h2
  obtain ⟨k, rfl⟩ : ∃ k : Nat, na = k := ⟨na.toNat, by omega⟩
  have hlt : k < s.lo.length := by omega
  obtain ⟨x, hx⟩ : ∃ x, s.lo[k]? = some x := ⟨_, List.getElem?_eq_getElem hlt⟩
  have hB1 : Below w.heap.size w (w.alloc (.cells (sysA s p) 26)) := (Below.refl _ _).alloc (Nat.le_refl _) _
  have hB2 := hB1.alloc hB1.size (.cells #[.int .i64 0, .int .i64 k, .int .i64 n] 44)
  have hO2 := hO.below hB2
  obtain ⟨g, hg, hge, t0, t1⟩ := rowI_at hO2.r3 k x hx
  have hbb := below_put (k := k) (Below.mono hB2 hb) hge (.int .i64 t)
  have hd : doI s t ⟨0, k, n⟩ = { s with lo := s.lo.set k t } := by unfold doI; simp
  have HP : Aside0 (DoP w0 b (doI s t ⟨0, k, n⟩) p w (.returned (.tuple #[])) _) := ⟨⟨us, rfl, by rw [hd]; exact (hO2.set3 hg k t).fin, hbb⟩⟩
  obtain ⟨a0, c0, a1, c1, a2, c2, a3, c3, a4, c4, a5, c5⟩ := p
  unfold sysA at *
  dsimp only at *
  subst hg
  clear hO2 hbb hd hO hB1 hB2 hx hi h4 h2 hb
  go_enter Try.func64, Try.ntmps64
  go_wp2
  go_end0
  exact HP.out
set_option maxRecDepth 100000 in
set_option maxHeartbeats 4000000 in
theorem unlock_calls (w0 : World) (b : Nat) (s : Syst) (p : Ad) (us : List Value) (t : Nat) (na n : Int) (w : World) (hO : OwnS w0 b w s p us) (hi : okI ⟨1, na, n⟩ = true) (h4 : s.lo.length = 4) (hb : b ≤ w.heap.size) : Calls Try.prog 66 #[.agg (sysA s p), .int .i64 t, iv ⟨1, na, n⟩] w (DoP w0 b (doI s t ⟨1, na, n⟩) p w) := by
  obtain ⟨_, _, h1, h2, _⟩ := okI_bounds hi
  dsimp only at h1 h2
  obtain ⟨k, rfl⟩ : ∃ k : Nat, na = k := ⟨na.toNat, by omega⟩
  have hlt : k < s.lo.length := by omega
  obtain ⟨x, hx⟩ : ∃ x, s.lo[k]? = some x := ⟨_, List.getElem?_eq_getElem hlt⟩
  have hB1 : Below w.heap.size w (w.alloc (.cells (sysA s p) 26)) := (Below.refl _ _).alloc (Nat.le_refl _) _
  have hB2 := hB1.alloc hB1.size (.cells #[.int .i64 1, .int .i64 k, .int .i64 n] 44)
  have hO2 := hO.below hB2
  obtain ⟨g, hg, hge, t0, t1⟩ := rowI_at hO2.r3 k x hx
  by_cases hxt : x = t
  · have hbb := below_put (k := k) (Below.mono hB2 hb) hge (.int .i64 (-1))
    have hd : doI s t ⟨1, k, n⟩ = { s with lo := s.lo.set k (-1) } := by unfold doI; simp [hx, hxt]
    have HP : Aside0 (DoP w0 b (doI s t ⟨1, k, n⟩) p w (.returned (.tuple #[])) _) := ⟨⟨us, rfl, by rw [hd]; exact (hO2.set3 hg k (-1)).fin, hbb⟩⟩
    obtain ⟨a0, c0, a1, c1, a2, c2, a3, c3, a4, c4, a5, c5⟩ := p
    unfold sysA at *
    dsimp only at *
    subst hg hxt
    clear hO2 hbb hd hO hB1 hB2 hx hi h4 h2 hb
    go_enter Try.func66, Try.ntmps66
    go_wp2
    go_end0
    exact HP.out
  · have hd : doI s t ⟨1, k, n⟩ = s := by unfold doI; simp [hx, hxt]
    have HP : Aside0 (DoP w0 b (doI s t ⟨1, k, n⟩) p w (.returned (.tuple #[])) _) := ⟨⟨us, rfl, by rw [hd]; exact hO2.fin, Below.mono hB2 hb⟩⟩
    have d0 : (x == (t : Int)) = false := beq_eq_false_iff_ne.mpr hxt
    obtain ⟨a0, c0, a1, c1, a2, c2, a3, c3, a4, c4, a5, c5⟩ := p
    unfold sysA at *
    dsimp only at *
    subst hg
    clear hO2 hd hO hB1 hB2 hx hi h4 h2 hb
    go_enter Try.func66, Try.ntmps66
    go_wp2
    go_end0
    exact HP.out
set_option maxRecDepth 100000 in
set_option maxHeartbeats 4000000 in
theorem add_calls (w0 : World) (b : Nat) (s : Syst) (p : Ad) (us : List Value) (t : Nat) (na n : Int) (w : World) (hO : OwnS w0 b w s p us) (hi : okI ⟨2, na, n⟩ = true) (h4 : s.ce.length = 4) (hb : b ≤ w.heap.size) : Calls Try.prog 67 #[.agg (sysA s p), .int .i64 t, iv ⟨2, na, n⟩] w (DoP w0 b (doI s t ⟨2, na, n⟩) p w) := by
  obtain ⟨_, _, h1, h2, _⟩ := okI_bounds hi
  dsimp only at h1 h2
  obtain ⟨k, rfl⟩ : ∃ k : Nat, na = k := ⟨na.toNat, by omega⟩
  have hlt : k < s.ce.length := by omega
  obtain ⟨x, hx⟩ : ∃ x, s.ce[k]? = some x := ⟨_, List.getElem?_eq_getElem hlt⟩
  have hB1 : Below w.heap.size w (w.alloc (.cells (sysA s p) 26)) := (Below.refl _ _).alloc (Nat.le_refl _) _
  have hB2 := hB1.alloc hB1.size (.cells #[.int .i64 2, .int .i64 k, .int .i64 n] 44)
  have hO2 := hO.below hB2
  obtain ⟨g, hg, hge, t0, t1⟩ := rowI_at hO2.r4 k x hx
  have hbb := below_put (k := k) (Below.mono hB2 hb) hge (.int .i64 (wrap64 (x + n)))
  have hd : doI s t ⟨2, k, n⟩ = { s with ce := s.ce.set k (wrap64 (x + n)) } := by unfold doI; simp [hx]
  have HP : Aside0 (DoP w0 b (doI s t ⟨2, k, n⟩) p w (.returned (.tuple #[])) _) := ⟨⟨us, rfl, by rw [hd]; exact (hO2.set4 hg k _).fin, hbb⟩⟩
  obtain ⟨a0, c0, a1, c1, a2, c2, a3, c3, a4, c4, a5, c5⟩ := p
  unfold sysA at *
  dsimp only at *
  subst hg
  clear hO2 hbb hd hO hB1 hB2 hx hi h4 h2 hb
  go_enter Try.func67, Try.ntmps67
  go_wp2
  go_region
  go_wp2
  go_end0
  exact HP.out.drew
theorem own_at {w : World} {b n c : Nat} {e : TypeId} {A : Option Addr} {us : List Value} (h : w.ownsRow b e 1 (.slice A n c) n us) (k : Nat) (u : Value) (hu : us[k]? = some u) : ∃ g, A = some ⟨g, 0, none⟩ ∧ b ≤ g ∧ w.cell? ⟨g, k, none⟩ = some u ∧ w.frozen? ⟨g, k, none⟩ = false := by
  have hk := (List.getElem?_eq_some_iff.1 hu).1
  have hl := h.1
  rcases h.2 with ⟨_, h1⟩ | ⟨g, cap, cur, h1, _⟩
  · omega
  · cases h1
    obtain ⟨cur, h2, h3, _⟩ := own_open h
    exact ⟨g, rfl, h2, own_cell h hu, blk_frozen h3 k⟩
set_option maxRecDepth 100000 in
set_option maxHeartbeats 4000000 in
theorem recv_calls (w0 : World) (b : Nat) (s : Syst) (p : Ad) (us : List Value) (t : Nat) (na n : Int) (w : World) (hO : OwnS w0 b w s p us) (hi : okI ⟨4, na, n⟩ = true) (h4 : s.ch.length = 4) (ht : t < s.su.length) (hcan : canI s ⟨4, na, n⟩ = true) (hm : ∀ l, l ∈ s.ch → l.length ≤ 2) (hb : b ≤ w.heap.size) : Calls Try.prog 72 #[.agg (sysA s p), .int .i64 t, iv ⟨4, na, n⟩] w (DoP w0 b (doI s t ⟨4, na, n⟩) p w) := by
  obtain ⟨_, _, h1, h2, _⟩ := okI_bounds hi
  dsimp only at h1 h2
  obtain ⟨k, rfl⟩ : ∃ k : Nat, na = k := ⟨na.toNat, by omega⟩
  have hlt : k < s.ch.length := by omega
  obtain ⟨y, hy⟩ : ∃ y, s.ch[k]? = some y := ⟨_, List.getElem?_eq_getElem hlt⟩
  obtain ⟨x, hx⟩ : ∃ x, s.su[t]? = some x := ⟨_, List.getElem?_eq_getElem ht⟩
  have hy0 : 0 < y.length := by unfold canI at hcan; simpa [hy] using hcan
  have hy2 := hm y (List.mem_of_getElem? hy)
  obtain ⟨z, hz⟩ : ∃ z, y[0]? = some z := ⟨_, List.getElem?_eq_getElem hy0⟩
  have hul : us.length = s.ch.length := by have := hO.r5.1; omega
  obtain ⟨u, hu⟩ : ∃ u, us[k]? = some u := ⟨_, List.getElem?_eq_getElem (by omega)⟩
  obtain ⟨A, c, rfl, hyc, hA⟩ := hO.inn k y u hy hu
  obtain ⟨g, hg, hge, t0, t1⟩ := rowI_at hO.r2 t x hx
  obtain ⟨g5, hg5, hge5, t50, t51⟩ := own_at hO.r5 k _ hu
  have hgl : g < w.heap.size := World.block_lt_of_cell? w _ t0
  have hgl5 : g5 < w.heap.size := World.block_lt_of_cell? w _ t50
  have hne : g5 ≠ g := fun e => nd1 hO.d25 (by rw [hg]; rfl) (by rw [hg5, e]; rfl)
  obtain ⟨ad, rfl, v0⟩ := Kd.at_int (CI_up hA hO.bel) (0 : Int) (by omega) (by omega)
  have hz' : rd y 0 = z := by have := rdI hz; simpa using this
  rw [hz', show ad.add (Int.toNat 0) = ad from by cases ad; first | rfl | simp [Addr.add]] at v0
  have hB1 : Below w.heap.size w (w.alloc (.cells (sysA s p) 26)) := (Below.refl _ _).alloc (Nat.le_refl _) _
  have hB2 := hB1.alloc hB1.size (.cells #[.int .i64 4, .int .i64 k, .int .i64 n] 44)
  have hO2 := hO.below hB2
  have t0' := pw_cell_below hB2 t0
  have t50' := pw_cell_below hB2 t50
  have v0' := pw_cell_below hB2 v0
  obtain ⟨g', hg', _, _, t1'⟩ := rowI_at hO2.r2 t x hx
  obtain rfl : g = g' := by rw [hg] at hg'; injection hg' with hg'; injection hg'
  have hO1 := hO.set2 hg t (wrap64 (x + z))
  have hB5 : Below b w (w.setCell ⟨g, t, none⟩ (.int .i64 (wrap64 (x + z)))) := below_put (k := t) (Below.refl _ _) hge (.int .i64 (wrap64 (x + z)))
  have hBa : Below (w.setCell ⟨g, t, none⟩ (.int .i64 (wrap64 (x + z)))).heap.size (w.setCell ⟨g, t, none⟩ (.int .i64 (wrap64 (x + z)))) ((w.setCell ⟨g, t, none⟩ (.int .i64 (wrap64 (x + z)))).alloc (.cells (sysA s p) 26)) := (Below.refl _ _).alloc (Nat.le_refl _) _
  have hBb := hBa.alloc hBa.size (.cells #[.int .i64 4, .int .i64 k, .int .i64 n] 44)
  have hO3 := (hO1.below hBb).drew
  have hB3 := below_drew (hB5.trans (hBb.mono (Nat.le_trans hb hB5.size)))
  have HO3 := Aside0.mk hO3
  have HB3 := Aside0.mk hB3
  have HD : Aside0 (doI s t ⟨4, k, n⟩ = { s with su := s.su.set t (wrap64 (x + z)), ch := s.ch.set k (y.drop 1) }) := ⟨by unfold doI; simp [hy, hx, hz]⟩
  obtain ⟨a0, c0, a1, c1, a2, c2, a3, c3, a4, c4, a5, c5⟩ := p
  unfold sysA at *
  dsimp only at *
  subst hg hg5
  have HHA := Aside0.mk hA
  have HHY := Aside0.mk hy
  have HHU := Aside0.mk hu
  clear hO3 hB3 hO1 hB5 hBa hBb hO2 hO hB1 hB2 hx hi h4 h2 hb t0 t50 t51 v0 hul hu hz hz' hA hcan hm hy t1 hg'
  go_enter Try.func72, Try.ntmps72
  go_wp2
  go_region
  obtain ⟨g5', e5', _, t5, f5⟩ := own_at HO3.out.r5 k _ HHU.out
  have e5'' : g5 = g5' := by injection e5' with e5'; injection e5'
  subst e5''
  obtain ⟨A', hA', hcut⟩ : ∃ A', CI w0 A' (y.drop 1) ∧ ∀ W, (Instr.slice 23 (.slice (some ad) y.length c) (some (.int .i64 1)) none none).run Try.prog W = .ok (.slice A' (y.drop 1).length (c - 1)) W := by
    obtain ⟨i0, hi, _, hz0, _⟩ := info_parts info3
    refine ⟨_, Kd.C_drop HHA.out (m := 1) (by omega) hyc, fun W => ?_⟩
    rw [List.length_drop]
    exact cut_from (P := Try.prog) 23 3 .i64 Try.underlying23 hi 1 hz0 (some ad) y.length c 1 (by omega) (by omega) W
  have hfin := HO3.out.set5 rfl k (y.drop 1) A' (c - 1) (by rw [List.length_drop]; omega) (.inl hA')
  have hbb := below_put (k := k) HB3.out hge5 (.slice A' (y.drop 1).length (c - 1))
  have HP : Aside0 (DoP w0 b (doI s t ⟨4, k, n⟩) _ w (.returned (.tuple #[])) _) := ⟨⟨_, rfl, by rw [HD.out]; exact hfin, hbb⟩⟩
  generalize y.drop 1 = Y at *
  clear t0' t50' v0' t1' e5' hfin hbb hgl hgl5 HO3 HB3 hA'
  try dsimp only at t5 f5
  go_wp2
  go_region
  go_wp2
  go_end0
  exact HP.out.drew
end Go.Proofs.Ythnimpbcfegmjaa.Own

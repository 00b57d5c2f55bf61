/-
  datagram.Get, walked by hand: it answers what the plain function 'datagram_Get.f' tells.
-/
import Derived.Test.YtfbngnplpoepjaaGet0
namespace Go.Proofs.Ytfbngnplpoepjaa.Pure
open Go.RowKit Go.Proofs.Ytfbngnplpoepjaa.Own Go.Proofs.Ytfbngnplpoepjaa.P Go.Proofs.YtfbngnplpoepjaaW.PrintWords Go.Proofs.YtfbngnplpoepjaaW.PrintLast Go.Proofs.YtfbngnplpoepjaaW.PrintMore

set_option maxHeartbeats 4000000 in
theorem get_read (s t : ByteArray) (w : World) (hs : s.size ≤ 9223372036854775800) (ho : openOf s = (t, 0)) (ht : 20 ≤ t.size) (hts : t.size ≤ 9223372036854775800) (hm : t.extract 0 2 = ⟨#[68, 1]⟩) (q : Int × Int × Int × Int × ByteArray × Int) (hq : readD t = q) :
    Calls Try.prog 24 #[.string s] w fun e w' => e = .returned (.tuple #[.agg #[.int .u64 q.1, .int .i64 q.2.1, .int .i64 q.2.2.1, .int .u64 q.2.2.2.1, .string q.2.2.2.2.1], .int .i64 q.2.2.2.2.2]) ∧ Below w.heap.size w w' := by
  have HO : Aside0 (crc_Open.f s = some (t, 0)) := ⟨by rw [Open_f s hs, ho]⟩
  have hm2 : ((t.extract 0 2).toList == [68, 1]) = true := by
    rw [hm, ByteArray.toList_eq]
    rfl
  clear ho hm
  obtain ⟨r1, h1⟩ : ∃ r1, t.extract 2 t.size = r1 := ⟨_, rfl⟩
  obtain ⟨r2, h2⟩ : ∃ r2, r1.extract 8 r1.size = r2 := ⟨_, rfl⟩
  obtain ⟨r3, h3⟩ : ∃ r3, r2.extract 8 r2.size = r3 := ⟨_, rfl⟩
  obtain ⟨r4, h4⟩ : ∃ r4, r3.extract 1 r3.size = r4 := ⟨_, rfl⟩
  obtain ⟨r5, h5⟩ : ∃ r5, r4.extract 1 r4.size = r5 := ⟨_, rfl⟩
  have z1 : r1.size = t.size - 2 := by rw [← h1, ByteArray.size_extract]; omega
  have z2 : r2.size = t.size - 10 := by rw [← h2, ByteArray.size_extract]; omega
  have z3 : r3.size = t.size - 18 := by rw [← h3, ByteArray.size_extract]; omega
  have z4 : r4.size = t.size - 19 := by rw [← h4, ByteArray.size_extract]; omega
  obtain ⟨a, ha⟩ : ∃ a, nfold 0 (r1.extract 0 8).data.toList = a := ⟨_, rfl⟩
  obtain ⟨b, hb⟩ : ∃ b, nfold 0 (r2.extract 0 8).data.toList = b := ⟨_, rfl⟩
  obtain ⟨k, hk⟩ : ∃ k, nfold 0 (r3.extract 0 1).data.toList = k := ⟨_, rfl⟩
  obtain ⟨m, hmm⟩ : ∃ m, nfold 0 (r4.extract 0 1).data.toList = m := ⟨_, rfl⟩
  have bk := nfold_byte r3 (by omega)
  have bm := nfold_byte r4 (by omega)
  rw [hk] at bk
  rw [hmm] at bm
  obtain ⟨bk1, bk2⟩ := bk
  obtain ⟨bm1, bm2⟩ := bm
  have hg : getT t = (a, k, m, b, r5) := by unfold getT; simp only [h1, h2, h3, h4, h5, ha, hb, hk, hmm]
  have HQ : Aside0 (q = if okD k m r5 then (a, k, m, b, r5, 0) else noneD) := ⟨by rw [← hq]; unfold readD; rw [hg]⟩
  have C1 := fun (w0 W : World) (g : Nat) => number_calls w0 W g r1 8 (by decide) (by omega) (by omega)
  have C2 := fun (w0 W : World) (g : Nat) => number_calls w0 W g r2 8 (by decide) (by omega) (by omega)
  have C3 := fun (w0 W : World) (g : Nat) => number_calls w0 W g r3 1 (by decide) (by omega) (by omega)
  have C4 := fun (w0 W : World) (g : Nat) => number_calls w0 W g r4 1 (by decide) (by omega) (by omega)
  rw [ha, h2] at C1
  rw [hb, h3] at C2
  rw [hk, h4] at C3
  rw [hmm, h5] at C4
  clear hg hq ha hb hk hmm h2 h3 h4 h5 z1 z2 z3 z4
  go_enter Try.func24, Try.ntmps24
  go_wp2_with fail
  refine (crc_Open.calls s t 0 _ HO.out).mono ?_
  rintro e1 w1 ⟨rfl, hbb⟩
  have hR : w1.heap[w.heap.size]? = some (.cells zero39 39 (0, 0)) := (hbb.block _ (by simp)).trans (heap_alloc_new _ _)
  have HB := Aside0.mk (below_step (below_alloc (Below.refl _ _) _) hbb)
  have HR := Aside0.mk hR
  have hlt := lt_of_block hR
  clear hbb hR
  have ht' : decide ((t.size : Int) < 20) = false := by simp; omega
  go_wp2_with fail
  refine (C1 w _ w1.heap.size (heap_alloc_new _ _) (below_alloc HB.out _) HB.out.size).mono ?_
  rintro e2 w2 ⟨rfl, g2, k2, b2⟩
  have l2 := lt_of_block g2
  have hR2 : w2.heap[w.heap.size]? = some (.cells zero39 39 (0, 0)) := (k2.2 _ (by simp; omega) (by omega) (by simp)).trans ((heap_alloc_old _ _ hlt).trans HR.out)
  have G2 := Aside0.mk g2
  have R2 := Aside0.mk hR2
  have B2 := Aside0.mk b2
  clear g2 k2 b2 hR2 HR HB
  obtain ⟨g, hge⟩ : ∃ g, w1.heap.size = g := ⟨_, rfl⟩
  rw [hge] at l2 hlt G2 ⊢
  go_wp2_with fail
  have F0 : Fr w (w2.alloc (.cells #[.int .u64 a, .int .i64 0, .int .i64 0, .int .u64 0, .string ⟨#[]⟩] 39)) g w2.heap.size w.heap.size r2 #[.int .u64 a, .int .i64 0, .int .i64 0, .int .u64 0, .string ⟨#[]⟩] :=
    ⟨(heap_alloc_old _ _ l2).trans G2.out, heap_alloc_new _ _, (heap_alloc_old _ _ (by omega)).trans R2.out, below_alloc B2.out _⟩
  obtain ⟨D, hD⟩ : ∃ D, w2.heap.size = D := ⟨_, rfl⟩
  have hDg : D ≠ g := by omega
  have hRg : w.heap.size ≠ g := by omega
  have hRD : w.heap.size ≠ D := by omega
  have hwD : w.heap.size ≤ D := by omega
  have hwg : w.heap.size ≤ g := by omega
  rw [hD] at F0 ⊢
  have FF0 := Aside0.mk F0
  clear F0 G2 R2 B2
  refine (C2 w _ g FF0.out.rd FF0.out.bl hwg).mono ?_
  rintro e3 w3 ⟨rfl, g3, k3, b3⟩
  have F1 := FF0.out.num hDg hRg g3 k3 b3
  have qa := cell_of_blk F1.dg (o := 3) rfl
  have fa := free_of_blk F1.dg (o := 3)
  have FF1 := Aside0.mk (F1.set hDg hRD hwD 3 (.int .u64 b))
  clear g3 k3 b3 F1 FF0
  go_wp2_with fail
  clear qa fa
  refine (C3 w _ g FF1.out.rd FF1.out.bl hwg).mono ?_
  rintro e4 w4 ⟨rfl, g4, k4, b4⟩
  have F2 := FF1.out.num hDg hRg g4 k4 b4
  have qa := cell_of_blk F2.dg (o := 1) rfl
  have fa := free_of_blk F2.dg (o := 1)
  have FF2 := Aside0.mk (F2.set hDg hRD hwD 1 (.int .i64 k))
  clear g4 k4 b4 F2 FF1
  go_wp2_with fail
  clear qa fa
  refine (C4 w _ g FF2.out.rd FF2.out.bl hwg).mono ?_
  rintro e5 w5 ⟨rfl, g5, k5, b5⟩
  have F3 := FF2.out.num hDg hRg g5 k5 b5
  have F4 := F3.set hDg hRD hwD 2 (.int .i64 m)
  have F5 := F4.set hDg hRD hwD 4 (.string r5)
  have qa := cell_of_blk F3.dg (o := 2) rfl
  have fa := free_of_blk F3.dg (o := 2)
  have qb := cell_of_one F4.rd
  have qc := cell_of_blk F4.dg (o := 4) rfl
  have fc := free_of_blk F4.dg (o := 4)
  have q0 := cell_of_blk F5.dg (o := 0) rfl
  have q1 := cell_of_blk F5.dg (o := 1) rfl
  have q2 := cell_of_blk F5.dg (o := 2) rfl
  have q3 := cell_of_blk F5.dg (o := 3) rfl
  have q4 := cell_of_blk F5.dg (o := 4) rfl
  have FF5 := Aside0.mk F5
  clear g5 k5 b5 F3 F4 F5 FF2
  go_wp2_with fail
  clear qa fa qb qc fc q0 q1 q2 q3 q4
  by_cases ok : okD k m r5
  · have hq : q = (a, k, m, b, r5, 0) := by rw [HQ.out, if_pos ok]
    refine (datagram_Right.calls a k m b r5 true _ (by rw [right_f, decide_eq_true ok])).mono ?_
    rintro e6 w6 ⟨rfl, hb6⟩
    have hD6 := (hb6.block _ (lt_of_block FF5.out.dg)).trans FF5.out.dg
    have hR6 := (hb6.block _ (lt_of_block FF5.out.rs)).trans FF5.out.rs
    have B6 := Aside0.mk (below_step FF5.out.bl hb6)
    have q0 := cell_of_blk hD6 (o := 0) rfl
    have q1 := cell_of_blk hD6 (o := 1) rfl
    have q2 := cell_of_blk hD6 (o := 2) rfl
    have q3 := cell_of_blk hD6 (o := 3) rfl
    have q4 := cell_of_blk hD6 (o := 4) rfl
    have p0 := cell_of_blk hR6 (o := 0) rfl
    have p1 := cell_of_blk hR6 (o := 1) rfl
    have p2 := cell_of_blk hR6 (o := 2) rfl
    have p3 := cell_of_blk hR6 (o := 3) rfl
    have p4 := cell_of_blk hR6 (o := 4) rfl
    have f0 := free_of_blk hR6 (o := 0)
    have f1 := free_of_blk hR6 (o := 1)
    have f2 := free_of_blk hR6 (o := 2)
    have f3 := free_of_blk hR6 (o := 3)
    have f4 := free_of_blk hR6 (o := 4)
    have RR := Aside0.mk hR6
    clear hb6 hD6 hR6 FF5 HQ ok
    subst hq
    go_wp2
    exact bodyPost_ret (get_results rfl rfl (five_put RR.out)) rfl ⟨rfl, by repeat (first | exact B6.out | refine below_set ?_ (Nat.le_refl _))⟩
  · have hq : q = (0, 0, 0, 0, ⟨#[]⟩, 5) := by rw [HQ.out, if_neg ok]; rfl
    refine (datagram_Right.calls a k m b r5 false _ (by rw [right_f, decide_eq_false ok])).mono ?_
    rintro e6 w6 ⟨rfl, hb6⟩
    have hR6 := (hb6.block _ (lt_of_block FF5.out.rs)).trans FF5.out.rs
    have B6 := Aside0.mk (below_step FF5.out.bl hb6)
    have p0 := cell_of_blk hR6 (o := 0) rfl
    have p1 := cell_of_blk hR6 (o := 1) rfl
    have p2 := cell_of_blk hR6 (o := 2) rfl
    have p3 := cell_of_blk hR6 (o := 3) rfl
    have p4 := cell_of_blk hR6 (o := 4) rfl
    have f0 := free_of_blk hR6 (o := 0)
    have f1 := free_of_blk hR6 (o := 1)
    have f2 := free_of_blk hR6 (o := 2)
    have f3 := free_of_blk hR6 (o := 3)
    have f4 := free_of_blk hR6 (o := 4)
    have RR := Aside0.mk hR6
    clear hb6 hR6 FF5 HQ ok
    subst hq
    go_wp2
    exact bodyPost_ret (get_results rfl rfl (five_put RR.out)) rfl ⟨rfl, by repeat (first | exact B6.out | refine below_set ?_ (Nat.le_refl _))⟩

def datagram_Get.f (s : ByteArray) : Option (Int × Int × Int × Int × ByteArray × Int) := if s.size ≤ 9223372036854775800 then some (getOf s) else none
theorem datagram_Get.calls (a0 : ByteArray) (r1 r2 r3 r4 : Int) (r5 : ByteArray) (r6 : Int) (w : World) (h : datagram_Get.f a0 = some (r1, r2, r3, r4, r5, r6)) :
    Calls Try.prog 24 #[.string a0] w fun e w' => e = .returned (.tuple #[.agg #[.int .u64 r1, .int .i64 r2, .int .i64 r3, .int .u64 r4, .string r5], .int .i64 r6]) ∧ Below w.heap.size w w' := by
  unfold datagram_Get.f at h
  split at h
  · rename_i hs
    have h' := Option.some.inj h
    unfold getOf at h'
    obtain ⟨t, e, he⟩ : ∃ t e, openOf a0 = (t, e) := ⟨_, _, rfl⟩
    rw [he] at h'
    have hts : t.size ≤ a0.size := by
      unfold openOf at he
      split at he
      · cases he; rw [ByteArray.size_extract]; omega
      · cases he; exact Nat.zero_le _
    split at h'
    · rename_i hc
      obtain ⟨h1, h2, h3⟩ := hc
      obtain rfl : e = 0 := h1
      exact get_read a0 t w hs he h2 (by omega) h3 (r1, r2, r3, r4, r5, r6) h'
    · rename_i hc
      unfold noneD at h'
      cases h'
      refine get_none a0 t e w hs he ?_
      by_cases q1 : e = 0
      · by_cases q2 : t.size < 20
        · exact .inr (.inl q2)
        · exact .inr (.inr (fun z => hc ⟨q1, Nat.not_lt.mp q2, z⟩))
      · exact .inl q1
  · cases h

end Go.Proofs.Ytfbngnplpoepjaa.Pure

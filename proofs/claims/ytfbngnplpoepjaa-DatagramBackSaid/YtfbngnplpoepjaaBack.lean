/-
  DatagramBack, walked by hand: what is put is got as it was; what is got, put, is those bytes; cut below 24 bytes, or with one bit changed, it is none. For every datagram, text and number.
-/
import Derived.Test.YtfbngnplpoepjaaPlainBack
import Derived.Test.YtfbngnplpoepjaaOpen
namespace Go.Proofs.Ytfbngnplpoepjaa.Pure
open Go.RowKit Go.Proofs.Ytfbngnplpoepjaa.Own Go.Proofs.Ytfbngnplpoepjaa.P Go.Proofs.YtfbngnplpoepjaaW.PrintWords Go.Proofs.YtfbngnplpoepjaaW.PrintLast Go.Proofs.YtfbngnplpoepjaaW.PrintMore

theorem get_calls (s : ByteArray) (hs : s.size ≤ 1000) (a k m b : Int) (t : ByteArray) (e : Int) (h : getOf s = (a, k, m, b, t, e)) (w : World) :
    Calls Try.prog 24 #[.string s] w fun x w' => x = .returned (.tuple #[.agg #[.int .u64 a, .int .i64 k, .int .i64 m, .int .u64 b, .string t], .int .i64 e]) ∧ Below w.heap.size w w' :=
  datagram_Get.calls s a k m b t e w (by rw [Get_f s (by omega), h])

set_option maxHeartbeats 4000000 in
theorem back_walk (a k m b : Int) (s0 u0 : ByteArray) (at_ : Int) (w : World) (ha : (Lit.int .u64 a).wf = true) (hb : (Lit.int .u64 b).wf = true) :
    Calls Try.prog 9 #[.agg #[.int .u64 a, .int .i64 k, .int .i64 m, .int .u64 b, .string s0], .string u0, .int .i64 at_] w fun e w' => e = .returned (.bool true) ∧ Below w.heap.size w w' := by
  obtain ⟨t, ht, htn⟩ := cut11 s0
  obtain ⟨u, hu, hun⟩ := cut11 u0
  have HT := Aside0.mk ht
  have HU := Aside0.mk hu
  have HB := Aside0.mk (Below.refl w.heap.size w)
  have ba := bounds_u64 ha
  have bb := bounds_u64 hb
  have hu39 := Try.underlying39
  obtain ⟨ca, ck, cm, cb, ct, ce, hg⟩ : ∃ ca ck cm cb ct ce, getOf u = (ca, ck, cm, cb, ct, ce) := ⟨_, _, _, _, _, _, rfl⟩
  have hyes := put_got u
  have hno := not_got u
  rw [hg] at hyes hno
  have CG := Aside0.mk hg
  have CY := Aside0.mk hyes
  have CN := Aside0.mk hno
  clear hg hyes hno
  clear ht hu ha hb
  go_enter Try.func9, Try.ntmps9
  go_wp2_with fail
  refine (downpourlaw11_cut.calls s0 t _ HT.out).mono ?_
  rintro e1 w1 ⟨rfl, h1⟩
  have hR : w1.heap[w.heap.size]? = some (.cells #[.int .u64 a, .int .i64 k, .int .i64 m, .int .u64 b, .string s0] 39 (0, 0)) := (h1.block _ (by simp)).trans (heap_alloc_new _ _)
  have HB1 := Aside0.mk (below_step (below_alloc HB.out _) h1)
  have HR1 := Aside0.mk hR
  clear h1 hR HB
  go_wp2_with fail
  refine (downpourlaw11_cut.calls u0 u _ HU.out).mono ?_
  rintro e2 w2 ⟨rfl, h2⟩
  have hR : w2.heap[w.heap.size]? = some (.cells #[.int .u64 a, .int .i64 k, .int .i64 m, .int .u64 b, .string s0] 39 (0, 0)) := (h2.block _ (lt_of_block HR1.out)).trans HR1.out
  have HB2 := Aside0.mk (below_set (j := 4) (v := .string t) (below_step HB1.out h2) (Nat.le_refl _))
  have hS := blk_setCell (o := 4) (v := .string t) hR
  have q4 := cell_of_blk hR (o := 4) rfl
  have f4 := free_of_blk hR (o := 4)
  have x0 := cell_of_blk hS (o := 0) rfl
  have x1 := cell_of_blk hS (o := 1) rfl
  have x2 := cell_of_blk hS (o := 2) rfl
  have x3 := cell_of_blk hS (o := 3) rfl
  have x4 := cell_of_blk hS (o := 4) rfl
  have HS := Aside0.mk hS
  clear h2 hR hS HB1 HR1
  go_wp2_with fail
  clear q4 f4 x0 x1 x2 x3 x4
  by_cases ok : okD k m t
  · obtain ⟨k1, k2, m1, m2, hmt⟩ := id ok
    subst hmt
    obtain ⟨X, hX⟩ : ∃ X, sealOf (headOf a k (t.size : Int) b t) = X := ⟨_, rfl⟩
    have hz : X.size = 24 + t.size := by rw [← hX, sealOf_size, headOf_size]; omega
    have GX : Aside0 (getOf X = (a, k, (t.size : Int), b, t, 0)) := ⟨by rw [← hX]; exact getOf_put a k _ b t ok ba bb⟩
    have TX : Aside0 (∀ (p : Nat) (v : UInt8), p < 8 * X.size → v = X.data.toList.getD (p / 8) 0 ^^^ UInt8.ofNat (2 ^ (p % 8)) → getOf ⟨(X.data.toList.set (p / 8) v).toArray⟩ = noneD) := ⟨fun p v hp hv => by
      rw [← hX] at hv ⊢
      refine getOf_turned _ p ?_ v hv
      rw [← hX, sealOf_size] at hp
      exact hp⟩
    have PX : Aside0 (datagram_Put.f 9 a k (t.size : Int) b t = some (X, 0)) := ⟨by rw [Put_f _ _ _ _ _ 9 (by decide), if_pos ok, hX]⟩
    clear hX ok
    obtain ⟨p, hp, hpn⟩ : ∃ p : Nat, (wrap64 (at_.tmod (8 * (24 + (t.size : Int))) + 8 * (24 + (t.size : Int)))).tmod (8 * (24 + (t.size : Int))) = (p : Int) ∧ p < 8 * (24 + t.size) := by
      have b1 := tmod_bd at_ (8 * (24 + (t.size : Int))) (by omega)
      generalize at_.tmod (8 * (24 + (t.size : Int))) = z at b1 ⊢
      have e1 : wrap64 (z + 8 * (24 + (t.size : Int))) = z + 8 * (24 + (t.size : Int)) := by unfold wrap64; omega
      rw [e1]; clear e1
      have b2 := tmod_pos (z + 8 * (24 + (t.size : Int))) (8 * (24 + (t.size : Int))) (by omega) (by omega)
      generalize (z + 8 * (24 + (t.size : Int))).tmod (8 * (24 + (t.size : Int))) = v at b2 ⊢
      exact ⟨v.toNat, by omega, by omega⟩
    have kb := fun W => print_bytes (P := Try.prog) 9 33 5 Try.underlying9 Try.underlying33 Try.underlying5 X W
    obtain ⟨j, e8⟩ : ∃ j : Nat, p / 8 = j := ⟨_, rfl⟩
    obtain ⟨q, e7⟩ : ∃ q : Nat, p % 8 = q := ⟨_, rfl⟩
    have e8' : (p : Int) / 8 = (j : Int) := by omega
    have e7' : (p : Int) % 8 = (q : Int) := by omega
    have hj : j < 24 + t.size := by omega
    have hq : q < 8 := by omega
    have E87 := Aside0.mk (And.intro e8 e7)
    have HPN := Aside0.mk hpn
    clear e8 e7 hpn
    refine (datagram_Put.calls 9 a k (t.size : Int) b t X 0 _ PX.out).mono ?_
    rintro e3 w3 ⟨rfl, h3⟩
    have HB3 := Aside0.mk (below_step HB2.out h3)
    have HS3 := Aside0.mk ((h3.block _ (lt_of_block HS.out)).trans HS.out)
    clear h3 HB2 HS
    go_wp2_with fail
    refine (get_calls X (by omega) a k (t.size : Int) b t 0 GX.out _).mono ?_
    rintro e4 w4 ⟨rfl, h4⟩
    have HB4 := Aside0.mk (below_alloc (below_step HB3.out h4) (.cells #[.int .u64 a, .int .i64 k, .int .i64 (t.size : Int), .int .u64 b, .string t] 39))
    have hS4 := (h4.block _ (lt_of_block HS3.out)).trans HS3.out
    have hS5 := (heap_alloc_old w4 (.cells #[.int .u64 a, .int .i64 k, .int .i64 (t.size : Int), .int .u64 b, .string t] 39) (lt_of_block hS4)).trans hS4
    have x0 := cell_of_blk hS5 (o := 0) rfl
    have x1 := cell_of_blk hS5 (o := 1) rfl
    have x2 := cell_of_blk hS5 (o := 2) rfl
    have x3 := cell_of_blk hS5 (o := 3) rfl
    have x4 := cell_of_blk hS5 (o := 4) rfl
    clear h4 HB3 HS3 hS4 hS5
    go_wp2
    clear kb x0 x1 x2 x3 x4
    have HE : Aside0 (Below w.heap.size w (Lib.bytesWorld (w4.alloc (.cells #[.int .u64 a, .int .i64 k, .int .i64 (t.size : Int), .int .u64 b, .string t] 39)) 5 X)) := ⟨bytes_below HB4.out HB4.out.size _ _⟩
    have HL := HB4.out.size
    have HR := BytesAt.made (w4.alloc (.cells #[.int .u64 a, .int .i64 k, .int .i64 (t.size : Int), .int .u64 b, .string t] 39)) X
    rw [hz] at HR
    rw [show (w4.alloc (.cells #[.int .u64 a, .int .i64 k, .int .i64 (t.size : Int), .int .u64 b, .string t] 39)).heap.size = w4.heap.size + 1 by simp] at HR HL
    have HR := Aside0.mk HR
    clear HB4
    generalize Lib.bytesWorld (w4.alloc (.cells #[.int .u64 a, .int .i64 k, .int .i64 (t.size : Int), .int .u64 b, .string t] 39)) 5 X = W at HR HE ⊢
    generalize grownCap (w4.alloc (.cells #[.int .u64 a, .int .i64 k, .int .i64 (t.size : Int), .int .u64 b, .string t] 39)) (24 + t.size) 0 5 = cap
    obtain ⟨g, hgg⟩ : ∃ g, w4.heap.size + 1 = g := ⟨_, rfl⟩
    rw [hgg] at HL HR ⊢
    clear hgg
    obtain ⟨l, hl⟩ : ∃ l, X.data.toList = l := ⟨_, rfl⟩
    rw [hl] at HR
    have HXL := Aside0.mk hl
    clear hl
    have hc := (HR.out.2 j hj).1
    have hf := (HR.out.2 j hj).2
    have h2q : 2 ^ q < 256 := Nat.lt_of_lt_of_le (Nat.pow_lt_pow_right (by decide) hq) (by decide)
    obtain ⟨v, hv⟩ : ∃ v, l[j]?.getD 0 ^^^ UInt8.ofNat (2 ^ q) = v := ⟨_, rfl⟩
    have hx : bits .xor .u8 ((l[j]?.getD 0).toNat : Int) (2 ^ q % 256) = (v.toNat : Int) := by
      have h3 : ((2 : Int) ^ q % 256) = ((2 ^ q : Nat) : Int) := by
        have h4 : ((2 : Int) ^ q) = ((2 ^ q : Nat) : Int) := by simp
        rw [h4]
        generalize 2 ^ q = z at h2q ⊢
        omega
      rw [h3, u8_xor_nat _ _ (UInt8.toNat_lt _) h2q, ← hv, UInt8.toNat_xor, UInt8.toNat_ofNat', Nat.mod_eq_of_lt (by exact h2q)]
    have HN : Aside0 (getOf ⟨(l.set j v).toArray⟩ = noneD) := ⟨by
      have := TX.out p v (by rw [hz]; exact HPN.out) (by rw [E87.out.1, E87.out.2, HXL.out, ← hv, List.getD_eq_getElem?_getD])
      rw [E87.out.1, HXL.out] at this
      exact this⟩
    have HW := HR.out.put j hj v
    have HV : Aside0 (Below w.heap.size w (W.setCell ⟨g, j, none⟩ (.int .u8 v.toNat)).drew) := ⟨below_drew1 (below_set HE.out HL)⟩
    have ks := string_of_reads (P := Try.prog) (dst := 9) (c := cap) Try.underlying33 Try.underlying5 Try.underlying9 (HW.reads (by omega))
    rw [nums_of] at ks
    have hsz2 : (⟨(l.set j v).toArray⟩ : ByteArray).size ≤ 1000 := by rw [← data_length]; have := HW.1; simp only at this ⊢; omega
    obtain ⟨Z, hZ⟩ : ∃ Z : ByteArray, ⟨(l.set j v).toArray⟩ = Z := ⟨_, rfl⟩
    rw [hZ] at ks hsz2 HN
    clear hv HR HE h2q TX hZ
    go_region
    clear hc hf
    go_wp2_with fail
    refine (get_calls Z hsz2 0 0 0 0 ⟨#[]⟩ 5 HN.out _).mono ?_
    rintro e5 w5 ⟨rfl, h5⟩
    have HB5 := Aside0.mk (below_step HV.out h5)
    obtain ⟨ya, yk, ym, yb, yt, ye, hy⟩ : ∃ ya yk ym yb yt ye, getOf (X.extract 0 j) = (ya, yk, ym, yb, yt, ye) := ⟨_, _, _, _, _, _, rfl⟩
    have hye : j < 24 → ye = 5 := fun h => by
      rw [getOf_short _ (by rw [ByteArray.size_extract]; omega)] at hy
      unfold noneD at hy
      simp only [Prod.mk.injEq] at hy
      exact hy.2.2.2.2.2.symm
    have HY := Aside0.mk hy
    have hxs : (X.extract 0 j).size ≤ 1000 := by rw [ByteArray.size_extract]; omega
    clear h5 HV HW ks hy hx
    go_wp2_with fail
    refine (get_calls (X.extract 0 j) hxs ya yk ym yb yt ye HY.out _).mono ?_
    rintro e6 w6 ⟨rfl, h6⟩
    have HB7 := Aside0.mk (below_alloc (below_step (below_alloc HB5.out (.cells #[.int .u64 0, .int .i64 0, .int .i64 0, .int .u64 0, .string ⟨#[]⟩] 39)) h6) (.cells #[.int .u64 ya, .int .i64 yk, .int .i64 ym, .int .u64 yb, .string yt] 39))
    clear h6 HB5
    have hcase : ye ≠ 0 ∨ (ye = 0 ∧ ¬ ((j : Int) < 24)) := by
      by_cases z : ye = 0
      · exact .inr ⟨z, fun h => by have := hye (by omega); omega⟩
      · exact .inl z
    clear hye
    rcases hcase with hc0 | ⟨rfl, hc1⟩
    · have hd : (ye == 0) = false := by simpa using hc0
      clear hc0
      go_wp2_with fail
      refine (get_calls u (by omega) ca ck cm cb ct ce CG.out _).mono ?_
      rintro e8 w8 ⟨rfl, h8⟩
      have HB8 := Aside0.mk (below_step HB7.out h8)
      clear h8 HB7
      by_cases hce : ce = 0
      · subst hce
        obtain ⟨okc, hsc⟩ := CY.out rfl
        have HP : Aside0 (datagram_Put.f 9 ca ck cm cb ct = some (u, 0)) := ⟨by rw [Put_f _ _ _ _ _ 9 (by decide), if_pos okc, hsc]⟩
        clear okc hsc
        go_wp2_with fail
        refine (datagram_Put.calls 9 ca ck cm cb ct u 0 _ HP.out).mono ?_
        rintro e9 w9 ⟨rfl, h9⟩
        have HB9 := Aside0.mk (below_step (below_alloc HB8.out _) h9)
        clear h9 HB8
        go_wp2_with fail
        refine (downpourlaw11_alive.calls 9 true _ (alive11 9 (by decide))).mono ?_
        rintro e10 w10 ⟨rfl, h10⟩
        have HB10 := Aside0.mk (below_step HB9.out h10)
        clear h10 HB9
        go_wp2
        go_ret
        exact ⟨rfl, HB10.out⟩
      · have hn := CN.out hce
        unfold noneD at hn
        simp only [Prod.mk.injEq] at hn
        obtain ⟨rfl, rfl, rfl, rfl, rfl, rfl⟩ := hn
        clear hce
        go_wp2_with fail
        refine (downpourlaw11_alive.calls 9 true _ (alive11 9 (by decide))).mono ?_
        rintro e10 w10 ⟨rfl, h10⟩
        have HB10 := Aside0.mk (below_step (below_alloc HB8.out _) h10)
        have hD := (h10.block _ (by simp)).trans (heap_alloc_new w8 _)
        have d1 := cell_of_blk hD (o := 1) rfl
        have d2 := cell_of_blk hD (o := 2) rfl
        clear h10 HB8 hD
        go_wp2
        go_ret
        exact ⟨rfl, HB10.out⟩
    · have hd : decide ((j : Int) < 24) = false := decide_eq_false hc1
      clear hc1
      go_wp2_with fail
      refine (get_calls u (by omega) ca ck cm cb ct ce CG.out _).mono ?_
      rintro e8 w8 ⟨rfl, h8⟩
      have HB8 := Aside0.mk (below_step HB7.out h8)
      clear h8 HB7
      by_cases hce : ce = 0
      · subst hce
        obtain ⟨okc, hsc⟩ := CY.out rfl
        have HP : Aside0 (datagram_Put.f 9 ca ck cm cb ct = some (u, 0)) := ⟨by rw [Put_f _ _ _ _ _ 9 (by decide), if_pos okc, hsc]⟩
        clear okc hsc
        go_wp2_with fail
        refine (datagram_Put.calls 9 ca ck cm cb ct u 0 _ HP.out).mono ?_
        rintro e9 w9 ⟨rfl, h9⟩
        have HB9 := Aside0.mk (below_step (below_alloc HB8.out _) h9)
        clear h9 HB8
        go_wp2_with fail
        refine (downpourlaw11_alive.calls 9 true _ (alive11 9 (by decide))).mono ?_
        rintro e10 w10 ⟨rfl, h10⟩
        have HB10 := Aside0.mk (below_step HB9.out h10)
        clear h10 HB9
        go_wp2
        go_ret
        exact ⟨rfl, HB10.out⟩
      · have hn := CN.out hce
        unfold noneD at hn
        simp only [Prod.mk.injEq] at hn
        obtain ⟨rfl, rfl, rfl, rfl, rfl, rfl⟩ := hn
        clear hce
        go_wp2_with fail
        refine (downpourlaw11_alive.calls 9 true _ (alive11 9 (by decide))).mono ?_
        rintro e10 w10 ⟨rfl, h10⟩
        have HB10 := Aside0.mk (below_step (below_alloc HB8.out _) h10)
        have hD := (h10.block _ (by simp)).trans (heap_alloc_new w8 _)
        have d1 := cell_of_blk hD (o := 1) rfl
        have d2 := cell_of_blk hD (o := 2) rfl
        clear h10 HB8 hD
        go_wp2
        go_ret
        exact ⟨rfl, HB10.out⟩
  · refine (datagram_Put.calls 9 a k m b t ⟨#[]⟩ 1 _ (by rw [Put_f _ _ _ _ _ 9 (by decide), if_neg ok])).mono ?_
    rintro e3 w3 ⟨rfl, h3⟩
    have HB3 := Aside0.mk (below_step HB2.out h3)
    clear h3 HB2
    go_wp2_with fail
    refine (get_calls u (by omega) ca ck cm cb ct ce CG.out _).mono ?_
    rintro e8 w8 ⟨rfl, h8⟩
    have HB8 := Aside0.mk (below_step HB3.out h8)
    clear h8 HB3
    by_cases hce : ce = 0
    · subst hce
      obtain ⟨okc, hsc⟩ := CY.out rfl
      have HP : Aside0 (datagram_Put.f 9 ca ck cm cb ct = some (u, 0)) := ⟨by rw [Put_f _ _ _ _ _ 9 (by decide), if_pos okc, hsc]⟩
      clear okc hsc
      go_wp2_with fail
      refine (datagram_Put.calls 9 ca ck cm cb ct u 0 _ HP.out).mono ?_
      rintro e9 w9 ⟨rfl, h9⟩
      have HB9 := Aside0.mk (below_step (below_alloc HB8.out _) h9)
      clear h9 HB8
      go_wp2_with fail
      refine (downpourlaw11_alive.calls 9 true _ (alive11 9 (by decide))).mono ?_
      rintro e10 w10 ⟨rfl, h10⟩
      have HB10 := Aside0.mk (below_step HB9.out h10)
      clear h10 HB9
      go_wp2
      go_ret
      exact ⟨rfl, HB10.out⟩
    · have hn := CN.out hce
      unfold noneD at hn
      simp only [Prod.mk.injEq] at hn
      obtain ⟨rfl, rfl, rfl, rfl, rfl, rfl⟩ := hn
      clear hce
      go_wp2_with fail
      refine (downpourlaw11_alive.calls 9 true _ (alive11 9 (by decide))).mono ?_
      rintro e10 w10 ⟨rfl, h10⟩
      have HB10 := Aside0.mk (below_step (below_alloc HB8.out _) h10)
      have hD := (h10.block _ (by simp)).trans (heap_alloc_new w8 _)
      have d1 := cell_of_blk hD (o := 1) rfl
      have d2 := cell_of_blk hD (o := 2) rfl
      clear h10 HB8 hD
      go_wp2
      go_ret
      exact ⟨rfl, HB10.out⟩

end Go.Proofs.Ytfbngnplpoepjaa.Pure

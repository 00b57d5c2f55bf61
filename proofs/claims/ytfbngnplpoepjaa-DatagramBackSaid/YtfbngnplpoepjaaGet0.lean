/-
  datagram.Get, walked by hand with the reader's method value.
-/
import Derived.Test.YtfbngnplpoepjaaPureDatagramPuts
import Derived.OneCell
import Derived.Laws.CopyOwn
namespace Go.Proofs.Ytfbngnplpoepjaa.Pure
open Go.RowKit Go.Proofs.Ytfbngnplpoepjaa.Own Go.Proofs.Ytfbngnplpoepjaa.P Go.Proofs.YtfbngnplpoepjaaW.PrintWords Go.Proofs.YtfbngnplpoepjaaW.PrintLast Go.Proofs.YtfbngnplpoepjaaW.PrintMore

def nfold : Int → List UInt8 → Int
  | x, [] => x
  | x, b :: l => nfold (bits .or .u64 (x * 256 % 18446744073709551616) b.toNat) l
theorem nfold_drop (x : Int) (s : ByteArray) (i : Nat) (h : i < s.size) : nfold x (s.data.toList.drop i) = nfold (bits .or .u64 (x * 256 % 18446744073709551616) (s.data.toList.getD i 0).toNat) (s.data.toList.drop (i + 1)) := by
  have h' : i < s.data.toList.length := by rw [data_length]; exact h
  rw [List.drop_eq_getElem_cons h', nfold]
  simp [List.getD_eq_getElem?_getD, List.getElem?_eq_getElem h']

set_option maxHeartbeats 1000000 in
theorem number_calls (w0 w : World) (g : Nat) (s : ByteArray) (m : Nat) (hm : m ≤ 8) (hs : m ≤ s.size) (_ : s.size ≤ 9223372036854775800) (hg : w.heap[g]? = some (.cells #[.string s] 56 (0, 0))) (hB : Below w0.heap.size w0 w) (hgw : w0.heap.size ≤ g) :
    Calls Try.prog 29 #[.pointer (some ⟨g, 0, none⟩), .int .i64 m] w fun e w' => e = .returned (.int .u64 (nfold 0 (s.extract 0 m).data.toList)) ∧ w'.heap[g]? = some (.cells #[.string (s.extract m s.size)] 56 (0, 0)) ∧ KeepBut w w' g none ∧ Below w0.heap.size w0 w' := by
  have hc := cell_of_one hg
  have hf := free_of_one hg
  have hlt := lt_of_block hg
  have hxs : (s.extract 0 m).size = m := by rw [ByteArray.size_extract]; omega
  have HG := Aside0.mk hg
  have HB := Aside0.mk hB
  clear hg hB
  have kb := fun W => print_bytes (P := Try.prog) 9 33 5 Try.underlying9 Try.underlying33 Try.underlying5 (s.extract 0 m) W
  obtain ⟨r, hr⟩ : ∃ r, nfold 0 (s.extract 0 m).data.toList = r := ⟨_, rfl⟩
  rw [hr]
  have HH := Aside0.mk hr
  clear hr
  go_enter Try.func29, Try.ntmps29
  go_wp2
  clear kb hc hf
  have HC : Aside0 (∀ j, j < m → (Lib.bytesWorld w 5 (s.extract 0 m)).cell? ⟨w.heap.size, j, none⟩ = some (.int .u8 ((s.extract 0 m).data.toList.getD j 0).toNat)) := ⟨fun j hj => Lib.bytesWorld_cell w 5 _ j (by omega)⟩
  have HG2 : (Lib.bytesWorld w 5 (s.extract 0 m)).heap[g]? = some (.cells #[.string s] 56 (0, 0)) := (Lib.bytesWorld_at_old w 5 _ g hlt).trans HG.out
  have HK : Aside0 (KeepBut w (Lib.bytesWorld w 5 (s.extract 0 m)) g none) := ⟨⟨by rw [Lib.bytesWorld_size]; omega, fun i hi _ _ => Lib.bytesWorld_at_old w 5 _ i hi⟩⟩
  have HB2 : Aside0 (Below w0.heap.size w0 (Lib.bytesWorld w 5 (s.extract 0 m))) := ⟨bytes_below HB.out HB.out.size _ _⟩
  clear HG HB
  generalize Lib.bytesWorld w 5 (s.extract 0 m) = W at HC HG2 HK HB2 ⊢
  generalize grownCap w m 0 5 = cap
  have hc := cell_of_one HG2
  have hf := free_of_one HG2
  have HG := Aside0.mk HG2
  clear HG2
  go_loopg [5, 16] m (fun n v5 v16 w' => ∃ (k : Nat) (x : Int), k + n = m ∧ v16 = .int .i64 k ∧ v5 = .int .u64 x ∧ w' = W ∧ Aside0 (nfold x ((s.extract 0 m).data.toList.drop k) = r))
  case atStart => exact ⟨0, 0, by omega, rfl, rfl, rfl, by simpa using HH⟩
  case round =>
    clear HH
    obtain ⟨k, x, hk, rfl, rfl, rfl, HA⟩ := hrel
    by_cases hlt : k < m
    · obtain ⟨b, hb⟩ : ∃ b : UInt8, (s.extract 0 m).data.toList.getD k 0 = b := ⟨_, rfl⟩
      have hn := nfold_drop x (s.extract 0 m) k (by omega)
      have hcb := HC.out k hlt
      rw [hb] at hn hcb
      clear hb
      have hbr : (b.toNat : Int) < 256 := by have := b.toNat_lt; omega
      have HN : Aside0 (nfold (bits .or .u64 (x * 256 % 18446744073709551616) b.toNat) ((s.extract 0 m).data.toList.drop (k + 1)) = r) := ⟨by rw [← hn]; exact HA.out⟩
      clear hn HA
      go_wp2
      go_roundg (m - k - 1)
      case measure => omega
      case rel => exact ⟨k + 1, _, by omega, by go_num, rfl, rfl, HN⟩
    · have e := HA.out
      rw [List.drop_of_length_le (by rw [data_length]; omega), nfold] at e
      subst e
      clear HA
      go_wp2
      go_ret
      exact ⟨rfl, one_setCell HG.out, HK.out.set_ _ _, HB2.out.setCell hgw _⟩
/-- A block's cells behind a store. -/
theorem blk_setCell {w : World} {D o : Nat} {cs : Array Value} {t : TypeId} {v : Value} (h : w.heap[D]? = some (.cells cs t (0, 0))) : (w.setCell ⟨D, o, none⟩ v).heap[D]? = some (.cells (cs.setIfInBounds o v) t (0, 0)) := by
  have hlt := lt_of_block h
  have hv : w.heap[D] = .cells cs t (0, 0) := (Array.getElem?_eq_some_iff.1 h).2
  unfold World.setCell
  simp [Array.getElem?_modify, h]
theorem blk_other {w : World} {D E o : Nat} {v : Value} (hne : E ≠ D) : (w.setCell ⟨D, o, none⟩ v).heap[E]? = w.heap[E]? := Below.heap_setCell w ⟨D, o, none⟩ v E hne
theorem cell_of_blk {w : World} {D o : Nat} {cs : Array Value} {t : TypeId} {v : Value} (h : w.heap[D]? = some (.cells cs t (0, 0))) (hv : cs[o]? = some v) : w.cell? ⟨D, o, none⟩ = some v := by rw [cell_of_row w D o cs t (0, 0) h, hv]
theorem free_of_blk {w : World} {D o : Nat} {cs : Array Value} {t : TypeId} (h : w.heap[D]? = some (.cells cs t (0, 0))) : w.frozen? ⟨D, o, none⟩ = false := by simp [World.frozen?, h]
def zero39 : Array Value := #[.int .u64 0, .int .i64 0, .int .i64 0, .int .u64 0, .string ⟨#[]⟩]
/-- Where Get stands: the reader's block, the datagram's, the result's. -/
structure Fr (w0 W : World) (g D R : Nat) (s : ByteArray) (c : Array Value) : Prop where
  rd : W.heap[g]? = some (.cells #[.string s] 56 (0, 0))
  dg : W.heap[D]? = some (.cells c 39 (0, 0))
  rs : W.heap[R]? = some (.cells zero39 39 (0, 0))
  bl : Below w0.heap.size w0 W
theorem Fr.num {w0 W W' : World} {g D R : Nat} {s s' : ByteArray} {c : Array Value} (h : Fr w0 W g D R s c) (hD : D ≠ g) (hR : R ≠ g) (hg : W'.heap[g]? = some (.cells #[.string s'] 56 (0, 0))) (hk : KeepBut W W' g none) (hb : Below w0.heap.size w0 W') : Fr w0 W' g D R s' c :=
  ⟨hg, (hk.2 D (lt_of_block h.dg) hD (by simp)).trans h.dg, (hk.2 R (lt_of_block h.rs) hR (by simp)).trans h.rs, hb⟩
theorem Fr.set {w0 W : World} {g D R : Nat} {s : ByteArray} {c : Array Value} (h : Fr w0 W g D R s c) (hD : D ≠ g) (hR : R ≠ D) (hw : w0.heap.size ≤ D) (o : Nat) (v : Value) : Fr w0 (W.setCell ⟨D, o, none⟩ v) g D R s (c.setIfInBounds o v) :=
  ⟨(blk_other (Ne.symm hD)).trans h.rd, blk_setCell h.dg, (blk_other hR).trans h.rs, h.bl.setCell hw _⟩
/-- The result stored whole: the world behind it. -/
theorem put39 {w0 W : World} {R : Nat} {cur : Array Value} (h : W.heap[R]? = some (.cells cur 39 (0, 0))) (hs : cur.size = 5) (hb : Below w0.heap.size w0 W) (hR : w0.heap.size ≤ R) (a k m b : Int) (s : ByteArray) :
    ∃ W' : World, (storeCells ⟨R, 0, none⟩ [.int .u64 a, .int .i64 k, .int .i64 m, .int .u64 b, .string s] 0).run Try.prog W = .ok () W' ∧ W'.heap[R]? = some (.cells #[.int .u64 a, .int .i64 k, .int .i64 m, .int .u64 b, .string s] 39 (0, 0)) ∧ Below w0.heap.size w0 W' := by
  have hr := run_storeCells_from (P := Try.prog) R 39 [.int .u64 a, .int .i64 k, .int .i64 m, .int .u64 b, .string s] 0 cur W h (by simp [hs]) (by simp [Value.oneCell'])
  refine ⟨_, hr, ?_, ?_⟩
  · exact setRow_heap W R cur _ 39 (0, 0) h
  · exact below_setRow hb hR _

/-- What the reader tells of the bytes ahead of the sum. -/
def getT (t : ByteArray) : Int × Int × Int × Int × ByteArray :=
  let r1 := t.extract 2 t.size
  let r2 := r1.extract 8 r1.size
  let r3 := r2.extract 8 r2.size
  let r4 := r3.extract 1 r3.size
  let r5 := r4.extract 1 r4.size
  (nfold 0 (r1.extract 0 8).data.toList, nfold 0 (r3.extract 0 1).data.toList, nfold 0 (r4.extract 0 1).data.toList, nfold 0 (r2.extract 0 8).data.toList, r5)
def noneD : Int × Int × Int × Int × ByteArray × Int := (0, 0, 0, 0, ⟨#[]⟩, 5)
def readD (t : ByteArray) : Int × Int × Int × Int × ByteArray × Int :=
  if okD (getT t).2.1 (getT t).2.2.1 (getT t).2.2.2.2 then ((getT t).1, (getT t).2.1, (getT t).2.2.1, (getT t).2.2.2.1, (getT t).2.2.2.2, 0) else noneD
def getOf (s : ByteArray) : Int × Int × Int × Int × ByteArray × Int :=
  if (openOf s).2 = 0 ∧ 20 ≤ (openOf s).1.size ∧ (openOf s).1.extract 0 2 = ⟨#[68, 1]⟩ then readD (openOf s).1 else noneD
theorem nfold_one (b : UInt8) : nfold 0 [b] = b.toNat := by
  simp only [nfold]
  have := b.toNat_lt
  rw [show ((0 : Int) * 256 % 18446744073709551616) = ((0 : Nat) : Int) from rfl, u64_or_nat _ _ (by decide) (by omega)]
  simp
theorem list_one {l : List UInt8} (h : l.length = 1) : ∃ b, l = [b] := by
  match l, h with
  | [b], _ => exact ⟨b, rfl⟩
theorem nfold_byte (s : ByteArray) (h : 1 ≤ s.size) : 0 ≤ nfold 0 (s.extract 0 1).data.toList ∧ nfold 0 (s.extract 0 1).data.toList ≤ 255 := by
  obtain ⟨b, hb⟩ := list_one (l := (s.extract 0 1).data.toList) (by rw [data_length, ByteArray.size_extract]; omega)
  rw [hb, nfold_one]
  have := b.toNat_lt
  omega

theorem get_results {tmps : Array Value} {X : World} {R : Nat} {a k m b e : Int} {s : ByteArray} (h2 : tmps.getD 2 undef = .pointer (some ⟨R, 0, none⟩)) (h3 : tmps.getD 3 undef = .int .i64 e)
    (hR : X.heap[R]? = some (.cells #[.int .u64 a, .int .i64 k, .int .i64 m, .int .u64 b, .string s] 39 (0, 0))) :
    (results Try.f24 tmps).run Try.prog X = .ok (.tuple #[.agg #[.int .u64 a, .int .i64 k, .int .i64 m, .int .u64 b, .string s], .int .i64 e]) X := by
  have hl := run_loadVar_row (P := Try.prog) X R 39 39 _ (0, 0) _ hR Try.underlying39 rfl (by kernel_rfl)
  have h2' : tmps[2]?.getD undef = .pointer (some ⟨R, 0, none⟩) := by simpa using h2
  have h3' : tmps[3]?.getD undef = .int .i64 e := by simpa using h3
  simp [results, Try.results24, h2', h3', asAddr, hl]
theorem five_put {W : World} {R : Nat} {x0 x1 x2 x3 x4 v0 v1 v2 v3 v4 : Value} (h : W.heap[R]? = some (.cells #[x0, x1, x2, x3, x4] 39 (0, 0))) :
    (((((W.setCell ⟨R, 0, none⟩ v0).setCell ⟨R, 1, none⟩ v1).setCell ⟨R, 2, none⟩ v2).setCell ⟨R, 3, none⟩ v3).setCell ⟨R, 4, none⟩ v4).heap[R]? = some (.cells #[v0, v1, v2, v3, v4] 39 (0, 0)) :=
  blk_setCell (blk_setCell (blk_setCell (blk_setCell (blk_setCell h))))

set_option maxHeartbeats 2000000 in
/-- The text opens to too little, or to what bears no mark. -/
theorem get_none (s t : ByteArray) (e : Int) (w : World) (hs : s.size ≤ 9223372036854775800) (ho : openOf s = (t, e)) (h : e ≠ 0 ∨ t.size < 20 ∨ t.extract 0 2 ≠ ⟨#[68, 1]⟩) :
    Calls Try.prog 24 #[.string s] w fun e w' => e = .returned (.tuple #[.agg #[.int .u64 0, .int .i64 0, .int .i64 0, .int .u64 0, .string ⟨#[]⟩], .int .i64 5]) ∧ Below w.heap.size w w' := by
  have HO : Aside0 (crc_Open.f s = some (t, e)) := ⟨by rw [Open_f s hs, ho]⟩
  clear ho
  by_cases he : e = 0
  · subst he
    by_cases ht : t.size < 20
    · clear h
      go_enter Try.func24, Try.ntmps24
      go_wp2_with fail
      refine (crc_Open.calls s t 0 _ HO.out).mono ?_
      rintro e1 w1 ⟨rfl, hb⟩
      have hR : w1.heap[w.heap.size]? = some (.cells zero39 39 (0, 0)) := (hb.block _ (by simp)).trans (heap_alloc_new _ _)
      have HB := Aside0.mk (below_step (below_alloc (Below.refl _ _) _) hb)
      have HR := Aside0.mk hR
      have q0 := cell_of_blk hR (o := 0) rfl
      have q1 := cell_of_blk hR (o := 1) rfl
      have q2 := cell_of_blk hR (o := 2) rfl
      have q3 := cell_of_blk hR (o := 3) rfl
      have q4 := cell_of_blk hR (o := 4) rfl
      have f0 := free_of_blk hR (o := 0)
      have f1 := free_of_blk hR (o := 1)
      have f2 := free_of_blk hR (o := 2)
      have f3 := free_of_blk hR (o := 3)
      have f4 := free_of_blk hR (o := 4)
      clear hb hR
      go_wp2
      exact bodyPost_ret (get_results rfl rfl (five_put HR.out)) rfl ⟨rfl, by repeat (first | exact HB.out | refine below_set ?_ (Nat.le_refl _))⟩
    · have hm : t.extract 0 2 ≠ ⟨#[68, 1]⟩ := by
        rcases h with h | h | h
        · exact absurd rfl h
        · exact absurd h ht
        · exact h
      have hm2 : ((t.extract 0 2).toList == [68, 1]) = false := by
        have : (t.extract 0 2).toList ≠ (⟨#[68, 1]⟩ : ByteArray).toList := fun z => hm (toList_inj.mp z)
        rw [ByteArray.toList_eq ⟨#[68, 1]⟩] at this
        simpa using this
      have ht2 : 20 ≤ t.size := by omega
      clear h hm
      go_enter Try.func24, Try.ntmps24
      go_wp2_with fail
      refine (crc_Open.calls s t 0 _ HO.out).mono ?_
      rintro e1 w1 ⟨rfl, hb⟩
      have hR : w1.heap[w.heap.size]? = some (.cells zero39 39 (0, 0)) := (hb.block _ (by simp)).trans (heap_alloc_new _ _)
      have HB := Aside0.mk (below_step (below_alloc (Below.refl _ _) _) hb)
      have HR := Aside0.mk hR
      have q0 := cell_of_blk hR (o := 0) rfl
      have q1 := cell_of_blk hR (o := 1) rfl
      have q2 := cell_of_blk hR (o := 2) rfl
      have q3 := cell_of_blk hR (o := 3) rfl
      have q4 := cell_of_blk hR (o := 4) rfl
      have f0 := free_of_blk hR (o := 0)
      have f1 := free_of_blk hR (o := 1)
      have f2 := free_of_blk hR (o := 2)
      have f3 := free_of_blk hR (o := 3)
      have f4 := free_of_blk hR (o := 4)
      clear hb hR
      go_wp2
      exact bodyPost_ret (get_results rfl rfl (five_put HR.out)) rfl ⟨rfl, by repeat (first | exact HB.out | refine below_set ?_ (Nat.le_refl _))⟩
  · clear h
    have he1 : (e == 0) = false := by simpa using he
    have he2 : (e != 0) = true := by simpa using he
    go_enter Try.func24, Try.ntmps24
    go_wp2_with fail
    refine (crc_Open.calls s t e _ HO.out).mono ?_
    rintro e1 w1 ⟨rfl, hb⟩
    have hR : w1.heap[w.heap.size]? = some (.cells zero39 39 (0, 0)) := (hb.block _ (by simp)).trans (heap_alloc_new _ _)
    have HB := Aside0.mk (below_step (below_alloc (Below.refl _ _) _) hb)
    have HR := Aside0.mk hR
    have q0 := cell_of_blk hR (o := 0) rfl
    have q1 := cell_of_blk hR (o := 1) rfl
    have q2 := cell_of_blk hR (o := 2) rfl
    have q3 := cell_of_blk hR (o := 3) rfl
    have q4 := cell_of_blk hR (o := 4) rfl
    have f0 := free_of_blk hR (o := 0)
    have f1 := free_of_blk hR (o := 1)
    have f2 := free_of_blk hR (o := 2)
    have f3 := free_of_blk hR (o := 3)
    have f4 := free_of_blk hR (o := 4)
    clear hb hR
    go_wp2
    exact bodyPost_ret (get_results rfl rfl (five_put HR.out)) rfl ⟨rfl, by repeat (first | exact HB.out | refine below_set ?_ (Nat.le_refl _))⟩

end Go.Proofs.Ytfbngnplpoepjaa.Pure

/-
  HistoryOrder, walked by hand: for every history it returns true.
-/
import Derived.Test.YtobfcppjmocgnaaPureOrder
import Derived.Test.YtobfcppjmocgnaaHCut
namespace Go.Proofs.Ytobfcppjmocgnaa.Own
open Go.RowKit Go.Shelf Go.Proofs.YtobfcppjmocgnaaW.PrintWords Go.Proofs.YtobfcppjmocgnaaW.PrintLast Go.Proofs.Ytobfcppjmocgnaa.P
set_option linter.unusedVariables false

def cntC (sp : List SP) (o : List Int) : Array Value := #[.int .i64 (nO sp o 0), .int .i64 (nO sp o 1), .int .i64 (nO sp o 2), .int .i64 (nO sp o 3)]
theorem made4 {w : World} {sp : List SP} {g base : Nat} (h : w.ownsRow base 3 1 (.slice (some ⟨g, 0, none⟩) 4 4) 4 (madeCells (Value.int .i64 0).cells (4 * 1)).toList) : w.heap[g]? = some (.cells (cntC sp []) 3 (0, 0)) := by
  rcases h.2 with ⟨h1, _⟩ | ⟨g', cap, cur, h1, _, h2, _, _, h5, h6⟩
  · cases h1
  · cases h1
    rw [h2]
    congr 2
    apply Array.ext'
    rw [List.take_of_length_le (by rw [Array.length_toList, h5]; exact Nat.le_refl _)] at h6
    rw [h6]
    simp [madeCells, cntC, nO, Value.cells]
    rfl
theorem nO_len (sp : List SP) (o : List Int) (c : Int) : nO sp o c ≤ o.length := List.length_filter_le _ _
set_option maxRecDepth 100000 in
set_option maxHeartbeats 16000000 in
theorem orderLaw_calls (A : Option Addr) (c : Nat) (l0 : List S53) (w : World) (hC : Kd.C k53 w A l0.length l0) (hc : l0.length ≤ c) :
    Calls Try.prog 6 #[.slice A l0.length c] w fun e w' => e = .returned (.bool true) ∧ Below w.heap.size w w' := by
  have hm := hC.2.1
  obtain ⟨l, hl⟩ : ∃ l, l0.take (min l0.length 50) = l := ⟨_, rfl⟩
  have hlen : l.length = min l0.length 50 := by rw [← hl, List.length_take]; omega
  have hCl : Kd.C k53 w A l.length l := by rw [← hl]; exact Kd.C_take hC (by omega)
  have hl50 : l.length ≤ 50 := by omega
  have hlc : l.length ≤ c := by omega
  obtain ⟨hd, hE⟩ := evs_of hCl
  have HC := Aside0.mk hCl
  have HE := Aside0.mk hE
  have HLEN := Aside0.mk hlen.symm
  obtain ⟨sp, hsp⟩ : ∃ sp, sp = if okH l then spTo l hd l.length else [] := ⟨_, rfl⟩
  have HSP := Aside0.mk hsp
  clear hC hCl hE hlen hl hsp
  cases ho : okH l with
  | false => as_aux_lemma =>
    have HO := Aside0.mk ho
    clear ho
    have hs0 : sp.length = 0 := by rw [HSP.out, HO.out]; rfl
    have HS0 := Aside0.mk hs0
    clear hs0
    go_enter Try.func6, Try.ntmps6
    go_wp2_with (first
      | (go_at_call 7; refine (few_calls' A l0.length c _ hc hm).mono ?_; rintro e w' ⟨rfl, rfl⟩; rw [HLEN.out])
      | (go_at_call 8; refine (spans_told A c l hd _ HC.out HE.out hl50 sp HSP.out).mono ?_; rintro e w1 ⟨B, d, rfl, hs, hb⟩; rw [HO.out, HS0.out]; have HB1 := Aside0.mk hb; have HD1 := Aside0.mk (Below.refl w1.heap.size w1); have HS1 := Aside0.mk hs; clear hb hs)
      | (go_at_call 14; refine (alone_calls A c l hd _ (Kd.C_below HC.out HB1.out) (HE.out.below HB1.out) hl50).mono ?_; rintro e w2 ⟨rfl, hb⟩; rw [HO.out];  have HB2 := Aside0.mk (HB1.out.trans (hb.mono HB1.out.size)); have HD2 := Aside0.mk (HD1.out.trans (hb.mono HD1.out.size)); clear hb)
      | (go_at_call 15; refine (open_calls A c l hd _ (Kd.C_below HC.out HB2.out) (HE.out.below HB2.out) hl50 sp HSP.out).mono ?_; rintro e w3 ⟨v, rfl, ho, hb⟩; rw [HO.out]; obtain ⟨B3, d3, rfl, hle, hr⟩ := ints_of ho; have HI3 := Aside0.mk hr; have HL3 := Aside0.mk hle; have HF3 := Aside0.mk (Below.refl w3.heap.size w3); have HB3 := Aside0.mk (HB2.out.trans (hb.mono HB2.out.size)); have HD3 := Aside0.mk (HD2.out.trans (hb.mono HD2.out.size)); clear hb ho hr hle)
      | (go_at_call 11; refine (alive_calls _).mono ?_; rintro e w4 ⟨rfl, hb⟩; have HB4 := Aside0.mk (HB3.out.trans (hb.mono HB3.out.size)); have HD4 := Aside0.mk (HD3.out.trans (hb.mono HD3.out.size)); have HF4 := Aside0.mk (HF3.out.trans (hb.mono HF3.out.size)); clear hb)
    )
    go_ret
    exact ⟨rfl, HB4.out⟩
  | true => as_aux_lemma =>
    have HO := Aside0.mk ho
    have hord := ord_of l hd ho
    obtain ⟨is, his⟩ : ∃ is, (!(spTo l hd l.length).any (fun p => alB l.length p.1)) = is := ⟨_, rfl⟩
    rw [his] at hord
    have hs1 : sp = spTo l hd l.length := by rw [HSP.out, HO.out]; rfl
    have hs50 : sp.length ≤ 50 := by rw [hs1]; exact Nat.le_trans (spTo_length _ _ _) hl50
    rw [← hs1] at hord
    have HORD := Aside0.mk hord
    have HIS := Aside0.mk his
    obtain ⟨ol, hol⟩ : ∃ ol, openTo sp sp.length = ol := ⟨_, rfl⟩
    have HOL := Aside0.mk hol
    clear ho hord his hs1 hol
    go_enter Try.func6, Try.ntmps6
    go_upto_region 9 with (first
      | (go_at_call 7; refine (few_calls' A l0.length c _ hc hm).mono ?_; rintro e w' ⟨rfl, rfl⟩; rw [HLEN.out])
      | (go_at_call 8; refine (spans_told A c l hd _ HC.out HE.out hl50 sp HSP.out).mono ?_; rintro e w1 ⟨B, d, rfl, hs, hb⟩; rw [HO.out]; have HB1 := Aside0.mk hb; have HD1 := Aside0.mk (Below.refl w1.heap.size w1); have HS1 := Aside0.mk hs; clear hb hs)
      | (go_at_call 14; refine (alone_calls A c l hd _ (Kd.C_below HC.out HB1.out) (HE.out.below HB1.out) hl50).mono ?_; rintro e w2 ⟨rfl, hb⟩; rw [HO.out]; rw [if_pos rfl, HIS.out]; have HB2 := Aside0.mk (HB1.out.trans (hb.mono HB1.out.size)); have HD2 := Aside0.mk (HD1.out.trans (hb.mono HD1.out.size)); clear hb)
      | (go_at_call 15; refine (open_calls A c l hd _ (Kd.C_below HC.out HB2.out) (HE.out.below HB2.out) hl50 sp HSP.out).mono ?_; rintro e w3 ⟨v, rfl, ho, hb⟩; rw [HO.out]; rw [HOL.out] at ho; obtain ⟨B3, d3, rfl, hle, hr⟩ := ints_of ho; have HI3 := Aside0.mk hr; have HL3 := Aside0.mk hle; have HF3 := Aside0.mk (Below.refl w3.heap.size w3); have HB3 := Aside0.mk (HB2.out.trans (hb.mono HB2.out.size)); have HD3 := Aside0.mk (HD2.out.trans (hb.mono HD2.out.size)); clear hb ho hr hle)
      | (go_at_call 11; refine (alive_calls _).mono ?_; rintro e w4 ⟨rfl, hb⟩; have HB4 := Aside0.mk (HB3.out.trans (hb.mono HB3.out.size)); have HD4 := Aside0.mk (HD3.out.trans (hb.mono HD3.out.size)); have HF4 := Aside0.mk (HF3.out.trans (hb.mono HF3.out.size)); clear hb)
    )
    go_wp2_with (at_make; refine hold ?_)
    refine ⟨?_⟩
    obtain ⟨i0, hi, hz0, hz1, hz2⟩ := info_parts info3
    refine wpList_make_full _ rfl _ _ 45 rfl w4.heap.size 3 i0 _ 1 Try.underlying45 hi hz0 hz1 .i64 .i64 4 4 4 rfl rfl rfl rfl (by rw [hz2]; decide) (by decide) (Nat.le_refl _) ?_
    intro w5 hown5 hgrow5
    have HQ5 : Aside0 (w5.heap[w4.heap.size]? = some (.cells (cntC sp []) 3 (0, 0))) := ⟨made4 hown5⟩
    have hb := pw_below_grown (Below.refl w4.heap.size w4) none (Nat.le_refl _) hgrow5 (fun k hk => by cases hk)
    have HB5 := Aside0.mk (HB4.out.trans (hb.mono HB4.out.size))
    have HD5 := Aside0.mk (HD4.out.trans (hb.mono HD4.out.size))
    have HF5 := Aside0.mk (HF4.out.trans (hb.mono HF4.out.size))
    have HG4 := Aside0.mk (HF4.out.size)
    have HG1 := Aside0.mk (HD4.out.size)
    have HG0 := Aside0.mk (HB4.out.size)
    clear hown5 hgrow5 hb
    obtain ⟨gO, hgO⟩ : ∃ gO, w4.heap.size = gO := ⟨_, rfl⟩
    rw [hgO] at HQ5 HG4 HG1 HG0
    have hlol : ol.length ≤ 50 := by rw [← HOL.out]; exact Nat.le_trans (openTo_length sp _) hs50
    rw [hgO]
    clear hgO
    go_wp2
    go_loopw [69] (fun v69 W => ∃ i : Nat, i ≤ ol.length ∧ v69 = .int .i64 i ∧ Aside0 (W.heap[gO]? = some (.cells (cntC sp (ol.take i)) 3 (0, 0))) ∧ Aside0 (Below w.heap.size w W) ∧ Aside0 (Below w1.heap.size w1 W) ∧ Aside0 (Below w3.heap.size w3 W)) (fun v69 _ => ol.length - (intOf v69).toNat)
    case atStart => exact ⟨0, Nat.zero_le _, rfl, HQ5, HB5, HD5, HF5⟩
    case round => as_aux_lemma =>
      clear HQ5 HB5 HD5 HF5
      obtain ⟨i, hi', rfl, HQ, HB, HD, HF⟩ := hrel
      by_cases hlt : i < ol.length
      · obtain ⟨j, hj, hjs⟩ : ∃ j : Nat, ol[i]? = some (j : Int) ∧ j < sp.length := by
          obtain ⟨j, h1, h2⟩ := openTo_mem sp sp.length (Nat.le_refl _) (ol[i]) (by rw [HOL.out]; exact List.getElem_mem hlt)
          exact ⟨j, by rw [List.getElem?_eq_getElem hlt, h1], h2⟩
        obtain ⟨p, hp⟩ : ∃ p, sp[j]? = some p := ⟨_, List.getElem?_eq_getElem hjs⟩
        obtain ⟨od, rfl, hod⟩ := Kd.at_int (Kd.C_below HI3.out HF.out) (i : Int) (by omega) (by omega)
        have hrd : rd ol (i : Int) = (j : Int) := by unfold rd; rw [Int.toNat_natCast, List.getD_eq_getElem?_getD, hj]; rfl
        rw [hrd, Int.toNat_natCast] at hod
        obtain ⟨ad, rfl, ⟨e0, -⟩, -⟩ := (HS1.out.below HD.out) j p hp
        have hcl0 := HORD.out.cl p (List.mem_of_getElem? hp)
        have HPJ := Aside0.mk hp
        have HTS := Aside0.mk (take_snoc hj)
        obtain ⟨n0, n1, n2, n3⟩ : nO sp (ol.take i) 0 ≤ 50 ∧ nO sp (ol.take i) 1 ≤ 50 ∧ nO sp (ol.take i) 2 ≤ 50 ∧ nO sp (ol.take i) 3 ≤ 50 := by
          have hL : (ol.take i).length ≤ 50 := by rw [List.length_take]; omega
          exact ⟨Nat.le_trans (nO_len _ _ _) hL, Nat.le_trans (nO_len _ _ _) hL, Nat.le_trans (nO_len _ _ _) hL, Nat.le_trans (nO_len _ _ _) hL⟩
        have q0 : wr.cell? ⟨gO, 0, none⟩ = some (.int .i64 (nO sp (ol.take i) 0)) := blk_cell HQ.out 0
        have q1 : wr.cell? ⟨gO, 1, none⟩ = some (.int .i64 (nO sp (ol.take i) 1)) := blk_cell HQ.out 1
        have q2 : wr.cell? ⟨gO, 2, none⟩ = some (.int .i64 (nO sp (ol.take i) 2)) := blk_cell HQ.out 2
        have q3 : wr.cell? ⟨gO, 3, none⟩ = some (.int .i64 (nO sp (ol.take i) 3)) := blk_cell HQ.out 3
        have qf := blk_frozen HQ.out
        have hcl1 : p.1.f0 = 0 ∨ p.1.f0 = 1 ∨ p.1.f0 = 2 ∨ p.1.f0 = 3 := by omega
        clear hj hp hrd hcl0
        rcases hcl1 with hcl | hcl | hcl | hcl
        · rw [hcl] at e0
          have HNEW : Aside0 ((wr.setCell ⟨gO, 0, none⟩ (.int .i64 ((nO sp (ol.take i) 0 : Int) + 1))).heap[gO]? = some (.cells (cntC sp (ol.take (i + 1))) 3 (0, 0))) := ⟨by
            rw [HTS.out]
            refine (blk_set HQ.out 0 _).trans ?_
            unfold cntC
            rw [nO_snoc sp _ j p HPJ.out, nO_snoc sp _ j p HPJ.out, nO_snoc sp _ j p HPJ.out, nO_snoc sp _ j p HPJ.out, hcl]
            rfl⟩
          have HN1 := Aside0.mk hcl
          clear hcl
          go_wp2
          go_roundw
          case rel => exact ⟨i + 1, hlt, by go_num, HNEW, ⟨HB.out.setCell (p := ⟨gO, 0, none⟩) HG0.out _⟩, ⟨HD.out.setCell (p := ⟨gO, 0, none⟩) HG1.out _⟩, ⟨HF.out.setCell (p := ⟨gO, 0, none⟩) HG4.out _⟩⟩
          case measure => simp [intOf]; omega
        · rw [hcl] at e0
          have HNEW : Aside0 ((wr.setCell ⟨gO, 1, none⟩ (.int .i64 ((nO sp (ol.take i) 1 : Int) + 1))).heap[gO]? = some (.cells (cntC sp (ol.take (i + 1))) 3 (0, 0))) := ⟨by
            rw [HTS.out]
            refine (blk_set HQ.out 1 _).trans ?_
            unfold cntC
            rw [nO_snoc sp _ j p HPJ.out, nO_snoc sp _ j p HPJ.out, nO_snoc sp _ j p HPJ.out, nO_snoc sp _ j p HPJ.out, hcl]
            rfl⟩
          have HN1 := Aside0.mk hcl
          clear hcl
          go_wp2
          go_roundw
          case rel => exact ⟨i + 1, hlt, by go_num, HNEW, ⟨HB.out.setCell (p := ⟨gO, 1, none⟩) HG0.out _⟩, ⟨HD.out.setCell (p := ⟨gO, 1, none⟩) HG1.out _⟩, ⟨HF.out.setCell (p := ⟨gO, 1, none⟩) HG4.out _⟩⟩
          case measure => simp [intOf]; omega
        · rw [hcl] at e0
          have HNEW : Aside0 ((wr.setCell ⟨gO, 2, none⟩ (.int .i64 ((nO sp (ol.take i) 2 : Int) + 1))).heap[gO]? = some (.cells (cntC sp (ol.take (i + 1))) 3 (0, 0))) := ⟨by
            rw [HTS.out]
            refine (blk_set HQ.out 2 _).trans ?_
            unfold cntC
            rw [nO_snoc sp _ j p HPJ.out, nO_snoc sp _ j p HPJ.out, nO_snoc sp _ j p HPJ.out, nO_snoc sp _ j p HPJ.out, hcl]
            rfl⟩
          have HN1 := Aside0.mk hcl
          clear hcl
          go_wp2
          go_roundw
          case rel => exact ⟨i + 1, hlt, by go_num, HNEW, ⟨HB.out.setCell (p := ⟨gO, 2, none⟩) HG0.out _⟩, ⟨HD.out.setCell (p := ⟨gO, 2, none⟩) HG1.out _⟩, ⟨HF.out.setCell (p := ⟨gO, 2, none⟩) HG4.out _⟩⟩
          case measure => simp [intOf]; omega
        · rw [hcl] at e0
          have HNEW : Aside0 ((wr.setCell ⟨gO, 3, none⟩ (.int .i64 ((nO sp (ol.take i) 3 : Int) + 1))).heap[gO]? = some (.cells (cntC sp (ol.take (i + 1))) 3 (0, 0))) := ⟨by
            rw [HTS.out]
            refine (blk_set HQ.out 3 _).trans ?_
            unfold cntC
            rw [nO_snoc sp _ j p HPJ.out, nO_snoc sp _ j p HPJ.out, nO_snoc sp _ j p HPJ.out, nO_snoc sp _ j p HPJ.out, hcl]
            rfl⟩
          have HN1 := Aside0.mk hcl
          clear hcl
          go_wp2
          go_roundw
          case rel => exact ⟨i + 1, hlt, by go_num, HNEW, ⟨HB.out.setCell (p := ⟨gO, 3, none⟩) HG0.out _⟩, ⟨HD.out.setCell (p := ⟨gO, 3, none⟩) HG1.out _⟩, ⟨HF.out.setCell (p := ⟨gO, 3, none⟩) HG4.out _⟩⟩
          case measure => simp [intOf]; omega
      · obtain rfl : i = ol.length := by omega
        have hle1 : ∀ c, nO sp ol c ≤ 1 := fun c => by rw [← HOL.out]; exact (nO_le HORD.out c sp.length (Nat.le_refl _)).1
        have hqq := HQ.out
        rw [List.take_length] at hqq
        have HQQ := Aside0.mk hqq
        clear HQ hqq
        go_wp2
        go_loopw [112] (fun v112 W => ∃ i : Nat, i ≤ 4 ∧ v112 = .int .i64 i ∧ W = wr) (fun v112 _ => 4 - (intOf v112).toNat)
        case atStart => exact ⟨0, by omega, rfl, rfl⟩
        case round => as_aux_lemma =>
          obtain ⟨i, hi4, rfl, rfl⟩ := hrel
          have q0 : wr.cell? ⟨gO, 0, none⟩ = some (.int .i64 (nO sp ol 0)) := blk_cell HQQ.out 0
          have q1 : wr.cell? ⟨gO, 1, none⟩ = some (.int .i64 (nO sp ol 1)) := blk_cell HQQ.out 1
          have q2 : wr.cell? ⟨gO, 2, none⟩ = some (.int .i64 (nO sp ol 2)) := blk_cell HQQ.out 2
          have q3 : wr.cell? ⟨gO, 3, none⟩ = some (.int .i64 (nO sp ol 3)) := blk_cell HQQ.out 3
          have hh : i = 0 ∨ i = 1 ∨ i = 2 ∨ i = 3 ∨ i = 4 := by omega
          have m0 := hle1 0
          have m1 := hle1 1
          have m2 := hle1 2
          have m3 := hle1 3
          have d0 : decide ((1 : Int) < (nO sp ol 0 : Int)) = false := decide_eq_false (by omega)
          have d1 : decide ((1 : Int) < (nO sp ol 1 : Int)) = false := decide_eq_false (by omega)
          have d2 : decide ((1 : Int) < (nO sp ol 2 : Int)) = false := decide_eq_false (by omega)
          have d3 : decide ((1 : Int) < (nO sp ol 3 : Int)) = false := decide_eq_false (by omega)
          clear m0 m1 m2 m3
          rcases hh with rfl | rfl | rfl | rfl | rfl
          · go_wp2
            go_roundw
            case rel => exact ⟨1, by omega, rfl, by first | trivial | rfl⟩
            case measure => simp [intOf]
          · go_wp2
            go_roundw
            case rel => exact ⟨2, by omega, rfl, by first | trivial | rfl⟩
            case measure => simp [intOf]
          · go_wp2
            go_roundw
            case rel => exact ⟨3, by omega, rfl, by first | trivial | rfl⟩
            case measure => simp [intOf]
          · go_wp2
            go_roundw
            case rel => exact ⟨4, by omega, rfl, by first | trivial | rfl⟩
            case measure => simp [intOf]
          · clear q0 q1 q2 q3 d0 d1 d2 d3
            go_wp2
            have HBz := HB
            have HDz := HD
            go_loopw [121] (fun v121 W => ∃ i : Nat, i ≤ sp.length ∧ v121 = .int .i64 i ∧ Aside0 (Below w.heap.size w W) ∧ Aside0 (Below w1.heap.size w1 W)) (fun v121 _ => sp.length - (intOf v121).toNat)
            case atStart => exact ⟨0, Nat.zero_le _, rfl, HBz, HDz⟩
            case round => as_aux_lemma =>
              clear HQQ HB HD HF HBz HDz
              obtain ⟨i, hi', rfl, HB, HD⟩ := hrel
              obtain ⟨wa, rfl⟩ : ∃ wa, wa = wr := ⟨_, rfl⟩
              by_cases hli : i < sp.length
              · obtain ⟨a, ha⟩ : ∃ a, sp[i]? = some a := ⟨_, List.getElem?_eq_getElem hli⟩
                obtain ⟨ad, hBad, ⟨e0, e1, e2, e3, e4, e5, e6, e7, e8, e9, e10, e11, e12, e13⟩, -, -⟩ := (HS1.out.below HD.out) i a ha
                cases hBad
                have HAI := Aside0.mk ha
                have HB1 : Aside0 (Below w.heap.size w (wa.alloc (.cells (spc a.1 a.2.1 a.2.2) 41))) := ⟨HB.out.alloc HB.out.size _⟩
                have HD2 : Aside0 (Below w1.heap.size w1 (wa.alloc (.cells (spc a.1 a.2.1 a.2.2) 41))) := ⟨HD.out.alloc HD.out.size _⟩
                have HA1 : Aside0 ((wa.alloc (.cells (spc a.1 a.2.1 a.2.2) 41)).heap[wa.heap.size]? = some (.cells (spc a.1 a.2.1 a.2.2) 41 (0, 0))) := ⟨blk_new wa _⟩
                clear ha
                go_wp2
                go_loopw [128] (fun v128 W => ∃ j : Nat, j ≤ sp.length ∧ v128 = .int .i64 j ∧ Aside0 (Below w.heap.size w W) ∧ Aside0 (Below w1.heap.size w1 W) ∧ Aside0 (W.heap[wa.heap.size]? = some (.cells (spc a.1 a.2.1 a.2.2) 41 (0, 0)))) (fun v128 _ => sp.length - (intOf v128).toNat)
                case atStart => exact ⟨0, Nat.zero_le _, rfl, HB1, HD2, HA1⟩
                case round => as_aux_lemma =>
                  clear HB1 HD2 HA1 e0 e1 e2 e3 e4 e5 e6 e7 e8 e9 e10 e11 e12 e13
                  obtain ⟨j, hj', rfl, HBj, HDj, HAj⟩ := hrel
                  obtain ⟨wb, rfl⟩ : ∃ wb, wb = wr := ⟨_, rfl⟩
                  by_cases hlj : j < sp.length
                  · obtain ⟨b, hbj⟩ : ∃ b, sp[j]? = some b := ⟨_, List.getElem?_eq_getElem hlj⟩
                    obtain ⟨bd, hBbd, ⟨f0, f1, f2, f3, f4, f5, f6, f7, f8, f9, f10, f11, f12, f13⟩, -, -⟩ := (HS1.out.below HDj.out) j b hbj
                    cases hBbd
                    have HBJ := Aside0.mk hbj
                    have HBk : Aside0 (Below w.heap.size w (wb.alloc (.cells (spc b.1 b.2.1 b.2.2) 41))) := ⟨HBj.out.alloc HBj.out.size _⟩
                    have HDk : Aside0 (Below w1.heap.size w1 (wb.alloc (.cells (spc b.1 b.2.1 b.2.2) 41))) := ⟨HDj.out.alloc HDj.out.size _⟩
                    have HAk : Aside0 ((wb.alloc (.cells (spc b.1 b.2.1 b.2.2) 41)).heap[wa.heap.size]? = some (.cells (spc a.1 a.2.1 a.2.2) 41 (0, 0))) := ⟨blk_alloc HAj.out _⟩
                    have HBBk : Aside0 ((wb.alloc (.cells (spc b.1 b.2.1 b.2.2) 41)).heap[wb.heap.size]? = some (.cells (spc b.1 b.2.1 b.2.2) 41 (0, 0))) := ⟨blk_new wb _⟩
                    clear hbj
                    obtain ⟨ab, hab⟩ : ∃ ab, befB a.1 b.1 = ab := ⟨_, rfl⟩
                    have HAB := Aside0.mk hab
                    clear hab
                    go_upto_region 29 with (fail)
                    clear f0 f1 f2 f3 f4 f5 f6 f7 f8 f9 f10 f11 f12 f13
                    obtain ⟨a0, a1, a2, a3, a4, a5, a6, a7, a8, a9, a10, a11, a12, a13⟩ := spc_cells HAj.out
                    have hgA := blk_lt HAj.out
                    go_cut [18] (fun v18 wc => v18 = .bool ab ∧ Aside0 (Below w.heap.size w wc) ∧ Aside0 (Below w1.heap.size w1 wc) ∧ Aside0 (wc.heap[wa.heap.size]? = some (.cells (spc a.1 a.2.1 a.2.2) 41 (0, 0))) ∧ Aside0 (wc.heap[wb.heap.size]? = some (.cells (spc b.1 b.2.1 b.2.2) 41 (0, 0))))
                    case first => as_aux_lemma =>
                      go_wp2_with (go_at_call 16; refine (before_calls a.1 b.1 a.2.1 b.2.1 a.2.2 b.2.2 _).mono ?_; rintro e wc ⟨rfl, hb⟩; rw [HAB.out]; have HBwc := Aside0.mk (HBk.out.trans (hb.mono HBk.out.size)); have HDwc := Aside0.mk (HDk.out.trans (hb.mono HDk.out.size)); have HAc := Aside0.mk (blk_below HAk.out hb); have HBBc := Aside0.mk (blk_below HBBk.out hb); clear hb)
                      go_meet
                      case rel => exact ⟨rfl, HBwc, HDwc, HAc, HBBc⟩
                    case rest => as_aux_lemma =>
                      clear a0 a1 a2 a3 a4 a5 a6 a7 a8 a9 a10 a11 a12 a13 HBk HDk HAk HBBk HBj HDj HAj hgA
                      obtain ⟨rfl, HBk, HDk, HAk, HBBk⟩ := hcut
                      obtain ⟨wk, rfl⟩ : ∃ wk, wk = wc := ⟨_, rfl⟩
                      go_upto_region 30 with (fail)
                      go_cut [181] (fun v181 wc => v181 = .bool false ∧ Aside0 (Below w.heap.size w wc) ∧ Aside0 (Below w1.heap.size w1 wc) ∧ Aside0 (wc.heap[wa.heap.size]? = some (.cells (spc a.1 a.2.1 a.2.2) 41 (0, 0))) ∧ Aside0 (wc.heap[wb.heap.size]? = some (.cells (spc b.1 b.2.1 b.2.2) 41 (0, 0))))
                      case first => as_aux_lemma =>
                        obtain ⟨a0, a1, a2, a3, a4, a5, a6, a7, a8, a9, a10, a11, a12, a13⟩ := spc_cells HAk.out
                        obtain ⟨b0, b1, b2, b3, b4, b5, b6, b7, b8, b9, b10, b11, b12, b13⟩ := spc_cells HBBk.out
                        obtain ⟨sb, hsb⟩ : ∃ sb, (a.1.f0 == b.1.f0) = sb := ⟨_, rfl⟩
                        have hAB := HAB.out
                        cases ab with
                        | true =>
                          obtain ⟨hij, hba⟩ := bef_facts HORD.out HAI.out HBJ.out hAB
                          have HBA := Aside0.mk hba
                          have dij : decide (j ≤ i) = false := decide_eq_false (by omega)
                          have d2 : decide (i < j) = true := decide_eq_true (by omega)
                          have hN : sb = true → decide (b.1.f1 ≤ a.1.f1) = false := fun h => decide_eq_false (by have := (HORD.out.same i j a b HAI.out HBJ.out hij (by rw [h] at hsb; simpa using hsb)).2; omega)
                          have hN2 : Aside0 (sb = true → decide (b.1.f1 ≤ a.1.f1) = false) := ⟨hN⟩
                          clear hAB hba hN hij
                          cases sb with
                          | true =>
                            have hN := hN2.out rfl
                            cases is
                            all_goals
                              go_wp2_with (go_at_call 16; refine (before_calls b.1 a.1 b.2.1 a.2.1 b.2.2 a.2.2 _).mono ?_; rintro e wd ⟨rfl, hb⟩; rw [HBA.out]; have HBwd := Aside0.mk (HBk.out.trans (hb.mono HBk.out.size)); have HDwd := Aside0.mk (HDk.out.trans (hb.mono HDk.out.size)); have HAd := Aside0.mk (blk_below HAk.out hb); have HBBd := Aside0.mk (blk_below HBBk.out hb); obtain ⟨a0, a1, a2, a3, a4, a5, a6, a7, a8, a9, a10, a11, a12, a13⟩ := spc_cells HAd.out; obtain ⟨b0, b1, b2, b3, b4, b5, b6, b7, b8, b9, b10, b11, b12, b13⟩ := spc_cells HBBd.out; clear hb)
                              go_meet
                              case rel => exact ⟨rfl, HBwd, HDwd, HAd, HBBd⟩
                          | false =>
                            cases is
                            all_goals
                              go_wp2_with (go_at_call 16; refine (before_calls b.1 a.1 b.2.1 a.2.1 b.2.2 a.2.2 _).mono ?_; rintro e wd ⟨rfl, hb⟩; rw [HBA.out]; have HBwd := Aside0.mk (HBk.out.trans (hb.mono HBk.out.size)); have HDwd := Aside0.mk (HDk.out.trans (hb.mono HDk.out.size)); have HAd := Aside0.mk (blk_below HAk.out hb); have HBBd := Aside0.mk (blk_below HBBk.out hb); obtain ⟨a0, a1, a2, a3, a4, a5, a6, a7, a8, a9, a10, a11, a12, a13⟩ := spc_cells HAd.out; obtain ⟨b0, b1, b2, b3, b4, b5, b6, b7, b8, b9, b10, b11, b12, b13⟩ := spc_cells HBBd.out; clear hb)
                              go_meet
                              case rel => exact ⟨rfl, HBwd, HDwd, HAd, HBBd⟩
                        | false =>
                          by_cases hij : i < j
                          · have d2 : decide (i < j) = true := decide_eq_true (by omega)
                            obtain rfl : sb = false := by
                              cases sb with
                              | false => rfl
                              | true => rw [(HORD.out.same i j a b HAI.out HBJ.out hij (by simpa using hsb)).1] at hAB; cases hAB
                            obtain rfl : is = false := by
                              cases is with
                              | false => rfl
                              | true => rw [HORD.out.al rfl i j a b HAI.out HBJ.out hij] at hAB; cases hAB
                            clear hAB
                            go_wp2
                            go_meet
                            case rel => exact ⟨rfl, HBk, HDk, HAk, HBBk⟩
                          · have d2 : decide (i < j) = false := decide_eq_false (by omega)
                            clear hAB
                            cases sb <;> cases is
                            all_goals
                              go_wp2
                              go_meet
                              case rel => exact ⟨rfl, HBk, HDk, HAk, HBBk⟩
                      case rest => as_aux_lemma =>
                        clear HBk HDk HAk HBBk
                        obtain ⟨rfl, HBk, HDk, HAk, HBBk⟩ := hcut
                        go_wp2
                        go_loopw [184] (fun v184 W => ∃ m : Nat, m ≤ sp.length ∧ v184 = .int .i64 m ∧ Aside0 (Below w.heap.size w W) ∧ Aside0 (Below w1.heap.size w1 W) ∧ Aside0 (W.heap[wa.heap.size]? = some (.cells (spc a.1 a.2.1 a.2.2) 41 (0, 0))) ∧ Aside0 (W.heap[wb.heap.size]? = some (.cells (spc b.1 b.2.1 b.2.2) 41 (0, 0)))) (fun v184 _ => sp.length - (intOf v184).toNat)
                        case atStart => exact ⟨0, Nat.zero_le _, rfl, HBk, HDk, HAk, HBBk⟩
                        case round => as_aux_lemma =>
                          clear HBk HDk HAk HBBk
                          obtain ⟨m, hm', rfl, HBm, HDm, HAm, HBBm⟩ := hrel
                          obtain ⟨wm, rfl⟩ : ∃ wm, wm = wr := ⟨_, rfl⟩
                          by_cases hlm : m < sp.length
                          · obtain ⟨q, hq⟩ : ∃ q, sp[m]? = some q := ⟨_, List.getElem?_eq_getElem hlm⟩
                            obtain ⟨qd, hqd, ⟨g0, g1, g2, g3, g4, g5, g6, g7, g8, g9, g10, g11, g12, g13⟩, -, -⟩ := (HS1.out.below HDm.out) m q hq
                            cases hqd
                            have HBn : Aside0 (Below w.heap.size w (wm.alloc (.cells (spc q.1 q.2.1 q.2.2) 41))) := ⟨HBm.out.alloc HBm.out.size _⟩
                            have HDn : Aside0 (Below w1.heap.size w1 (wm.alloc (.cells (spc q.1 q.2.1 q.2.2) 41))) := ⟨HDm.out.alloc HDm.out.size _⟩
                            have HAn : Aside0 ((wm.alloc (.cells (spc q.1 q.2.1 q.2.2) 41)).heap[wa.heap.size]? = some (.cells (spc a.1 a.2.1 a.2.2) 41 (0, 0))) := ⟨blk_alloc HAm.out _⟩
                            have HBBn : Aside0 ((wm.alloc (.cells (spc q.1 q.2.1 q.2.2) 41)).heap[wb.heap.size]? = some (.cells (spc b.1 b.2.1 b.2.2) 41 (0, 0))) := ⟨blk_alloc HBBm.out _⟩
                            have HCn : Aside0 ((wm.alloc (.cells (spc q.1 q.2.1 q.2.2) 41)).heap[wm.heap.size]? = some (.cells (spc q.1 q.2.1 q.2.2) 41 (0, 0))) := ⟨blk_new wm _⟩
                            obtain ⟨b0, b1, b2, b3, b4, b5, b6, b7, b8, b9, b10, b11, b12, b13⟩ := spc_cells HBBm.out
                            have hgB := blk_lt HBBm.out
                            have hAB := HAB.out
                            cases ab with
                            | true =>
                              cases hBC : befB b.1 q.1 with
                              | true =>
                                have HBC := Aside0.mk hBC
                                have HAC := Aside0.mk (bef_trans HORD.out (List.mem_of_getElem? HBJ.out) hAB hBC)
                                clear hq hBC
                                clear hAB
                                go_wp2_with fail
                                refine (before_calls b.1 q.1 b.2.1 q.2.1 b.2.2 q.2.2 _).mono ?_
                                rintro e we ⟨rfl, hb⟩
                                rw [HBC.out]
                                have HBwe := Aside0.mk (HBn.out.trans (hb.mono HBn.out.size))
                                have HDwe := Aside0.mk (HDn.out.trans (hb.mono HDn.out.size))
                                have HAe := Aside0.mk (blk_below HAn.out hb)
                                have HBe := Aside0.mk (blk_below HBBn.out hb)
                                have HCe := Aside0.mk (blk_below HCn.out hb)
                                obtain ⟨a0, a1, a2, a3, a4, a5, a6, a7, a8, a9, a10, a11, a12, a13⟩ := spc_cells HAe.out
                                obtain ⟨g0, g1, g2, g3, g4, g5, g6, g7, g8, g9, g10, g11, g12, g13⟩ := spc_cells HCe.out
                                clear hb
                                go_wp2_with fail
                                refine (before_calls a.1 q.1 a.2.1 q.2.1 a.2.2 q.2.2 _).mono ?_
                                rintro e wf ⟨rfl, hb⟩
                                rw [HAC.out]
                                have HBwf := Aside0.mk (HBwe.out.trans (hb.mono HBwe.out.size))
                                have HDwf := Aside0.mk (HDwe.out.trans (hb.mono HDwe.out.size))
                                have HAf := Aside0.mk (blk_below HAe.out hb)
                                have HBf := Aside0.mk (blk_below HBe.out hb)
                                clear hb
                                go_wp2_with fail
                                refine ⟨?_, by simp [intOf]; omega⟩
                                (repeat apply Exists.intro)
                                exact ⟨⟨m + 1, hlm, by go_num, HBwf, HDwf, HAf, HBf⟩, rfl⟩
                              | false =>
                                have HBC := Aside0.mk hBC
                                clear hq hBC
                                go_wp2_with (go_at_call 16; refine (before_calls b.1 q.1 b.2.1 q.2.1 b.2.2 q.2.2 _).mono ?_; rintro e we ⟨rfl, hb⟩; rw [HBC.out]; have HBwe := Aside0.mk (HBn.out.trans (hb.mono HBn.out.size)); have HDwe := Aside0.mk (HDn.out.trans (hb.mono HDn.out.size)); have HAe := Aside0.mk (blk_below HAn.out hb); have HBe := Aside0.mk (blk_below HBBn.out hb); clear hb)
                                refine ⟨?_, by simp [intOf]; omega⟩
                                (repeat apply Exists.intro)
                                exact ⟨⟨m + 1, hlm, by go_num, HBwe, HDwe, HAe, HBe⟩, rfl⟩
                            | false =>
                              clear hq
                              go_wp2
                              go_roundw
                              case rel => exact ⟨m + 1, hlm, by go_num, HBn, HDn, HAn, HBBn⟩
                              case measure => simp [intOf]; omega
                          · obtain rfl : m = sp.length := by omega
                            go_wp2
                            go_roundw
                            case rel => first | exact ⟨j + 1, hlj, by go_num, HBm, HDm, HAm⟩ | ((repeat apply Exists.intro); exact ⟨⟨j + 1, hlj, by go_num, HBm, HDm, HAm⟩, rfl⟩)
                            case measure => simp [intOf]; omega
                  · obtain rfl : j = sp.length := by omega
                    go_wp2
                    go_roundw
                    case rel => first | exact ⟨i + 1, hli, by go_num, HBj, HDj⟩ | ((repeat apply Exists.intro); exact ⟨⟨i + 1, hli, by go_num, HBj, HDj⟩, rfl⟩)
                    case measure => simp [intOf]; omega
              · obtain rfl : i = sp.length := by omega
                go_wp2
                go_ret
                exact ⟨rfl, HB.out⟩
end Go.Proofs.Ytobfcppjmocgnaa.Own

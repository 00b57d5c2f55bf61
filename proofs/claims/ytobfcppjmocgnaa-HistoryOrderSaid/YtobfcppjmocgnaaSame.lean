/-
  downpourref22.Same, walked by hand at two rows of the same spans.
-/
import Derived.Test.YtobfcppjmocgnaaRefSpans
import Derived.Test.YtobfcppjmocgnaaPx4
import Derived.StillTailTactics
namespace Go.Proofs.Ytobfcppjmocgnaa.Own
open Go.RowKit Go.Shelf Go.Proofs.YtobfcppjmocgnaaW.PrintWords Go.Proofs.YtobfcppjmocgnaaW.PrintLast Go.Proofs.Ytobfcppjmocgnaa.P
set_option linter.unusedVariables false
attribute [local go_sem high] eqC36

theorem texts_same (l : List ByteArray) (hl : l.length ≤ 9223372036854775807) : downpourref02_Texts.f (l.length + 1) l l = some true := by
  have h : ∀ (d k i : Nat), i + d = l.length → d < k → downpourref02_Texts.l0 k l l (l.length : Int) i = some true := by
    intro d
    induction d with
    | zero =>
      intro k i hi hk
      obtain ⟨k, rfl⟩ : ∃ m, k = m + 1 := ⟨k - 1, by omega⟩
      simp only [downpourref02_Texts.l0]
      rw [if_neg (by omega)]
    | succ d ih =>
      intro k i hi hk
      obtain ⟨k, rfl⟩ : ∃ m, k = m + 1 := ⟨k - 1, by omega⟩
      have h := ih k (i + 1) (by omega) (by omega)
      have hw : wrap64 ((i : Int) + 1) = ((i + 1 : Nat) : Int) := by unfold wrap64; omega
      simp only [downpourref02_Texts.l0]
      rw [hw, h]
      clear hw
      rw [if_pos (by omega), if_pos (by omega), if_pos (by omega), if_pos (by omega), if_pos trivial]
  unfold downpourref02_Texts.f
  rw [if_pos rfl]
  exact h l.length _ 0 (by omega) (by omega)
theorem replies_same (a b : Int) (A : Option Addr) (c : Nat) (B : Option Addr) (d : Nat) (l : List ByteArray) (w : World) (h1 : Kd.string.C w A l.length l) (h2 : l.length ≤ c) (h3 : Kd.string.C w B l.length l) (h4 : l.length ≤ d) :
    Calls Try.prog 26 #[.agg #[.int .i64 a, .int .i64 b, .slice A l.length c], .agg #[.int .i64 a, .int .i64 b, .slice B l.length d]] w fun e w' => e = .returned (.bool true) ∧ Below w.heap.size w w' :=
  downpourref18_Replies.calls (l.length + 1) a b A c l a b B d l true w h1 h2 h3 h4 (by
    unfold downpourref18_Replies.f
    rw [if_pos rfl, if_pos rfl, texts_same l h1.2.1, Option.bind_some])
theorem eq36_refl (a : S36) : eq36 a a = true := by simp [eq36]

set_option maxRecDepth 100000 in
set_option maxHeartbeats 16000000 in
theorem same_calls (A B : Option Addr) (c d : Nat) (sp sq : List SP) (hm : sp.map (·.1) = sq.map (·.1)) (hl : sp.length ≤ 50) (w : World) (hA : Sps w A sp) (hB : Sps w B sq) :
    Calls Try.prog 12 #[.slice A sp.length c, .slice B sq.length d] w fun e w' => e = .returned (.bool true) ∧ Below w.heap.size w w' := by
  have hlen : sq.length = sp.length := by have := congrArg List.length hm; simpa using this.symm
  rw [hlen]
  have HM := Aside0.mk hm
  have HLEN := Aside0.mk hlen
  have HA := Aside0.mk hA
  have HB := Aside0.mk hB
  have HE := Aside0.mk eq36_refl
  clear hm hlen hA hB
  go_enter Try.func12, Try.ntmps12
  go_wp2
  go_loopw [13] (fun v13 W => ∃ k : Nat, k ≤ sp.length ∧ v13 = .int .i64 k ∧ Aside0 (Below w.heap.size w W)) (fun v13 _ => sp.length - (intOf v13).toNat)
  case atStart => exact ⟨0, Nat.zero_le _, rfl, ⟨Below.refl _ _⟩⟩
  case round =>
    obtain ⟨k, hk, rfl, HW⟩ := hrel
    by_cases hlt : k < sp.length
    · obtain ⟨p, hp⟩ : ∃ p, sp[k]? = some p := ⟨_, List.getElem?_eq_getElem hlt⟩
      obtain ⟨q, hq⟩ : ∃ q, sq[k]? = some q := ⟨_, List.getElem?_eq_getElem (by rw [HLEN.out]; exact hlt)⟩
      have hpq : p.1 = q.1 := by
        have := congrArg (fun l => l[k]?) HM.out
        simp only [List.getElem?_map, hp, hq, Option.map_some, Option.some.injEq] at this
        exact this
      obtain ⟨ad, rfl, ⟨a0, a1, a2, a3, a4, a5, a6, a7, a8, a9, a10, a11, a12, a13⟩, al, ar⟩ := (HA.out.below HW.out) k p hp
      obtain ⟨bd, rfl, ⟨b0, b1, b2, b3, b4, b5, b6, b7, b8, b9, b10, b11, b12, b13⟩, bl, br⟩ := (HB.out.below HW.out) k q hq
      obtain ⟨s, Ap, cp⟩ := p
      obtain ⟨s', Aq, cq⟩ := q
      simp only at hpq
      subst hpq
      simp only at a0 a1 a2 a3 a4 a5 a6 a7 a8 a9 a10 a11 a12 a13 b0 b1 b2 b3 b4 b5 b6 b7 b8 b9 b10 b11 b12 b13 al ar bl br
      have hE := HE.out s.f2
      have AL := Aside0.mk al
      have AR := Aside0.mk ar
      have BL := Aside0.mk bl
      have BR := Aside0.mk br
      clear hp hq al ar bl br
      go_wp2
      go_still_tail 74, (by kernel_rfl)
      have hD : Below wr.heap.size wr wr.drew := (Below.refl _ _).drew
      go_wp2_with (go_at_call 26; refine (replies_same _ _ _ _ _ _ _ _ (Kd.C_below AR.out hD) AL.out (Kd.C_below BR.out hD) BL.out).mono ?_; rintro e w' ⟨rfl, hb⟩)
      go_roundw
      case rel => exact ⟨k + 1, hlt, by go_num, ⟨(HW.out.trans (hD.mono HW.out.size)).trans (hb.mono HW.out.size)⟩⟩
      case measure => simp [intOf]; omega
    · go_wp2
      go_ret
      exact ⟨rfl, HW.out⟩
end Go.Proofs.Ytobfcppjmocgnaa.Own

/-
  Calls that the laws make, in one form: the reference's Right and Same, and Numbers at the same list.
-/
import Derived.Test.YthnimpbcfegmjaaPl3
import Derived.Test.YthnimpbcfegmjaaA3
namespace Go.Proofs.Ythnimpbcfegmjaa.Own
open Go.RowKit Go.Proofs.YthnimpbcfegmjaaW.PrintWords Go.Proofs.YthnimpbcfegmjaaW.PrintLast Go.Proofs.YthnimpbcfegmjaaW.PrintMore Go.Proofs.Ythnimpbcfegmjaa.P Go.Proofs.Ythnimpbcfegmjaa.Model
set_option linter.unusedVariables false
set_option linter.unusedSimpArgs false

theorem refRightC (s : Syst) (p : Ad) (W : World) (h : SysC W s p) (hb : Bd s) : Calls Try.prog 10 #[.agg (sysA s p)] W (fun e w' => e = .returned (.bool (rightB s)) ∧ Below W.heap.size W w') :=
  downpourref20_Right.calls 4000 p.a0 p.c0 s.th p.a1 p.c1 s.at_ p.a2 p.c2 s.su p.a3 p.c3 s.lo p.a4 p.c4 s.ce p.a5 p.c5 s.ch (rightB s) W h.r0 h.h0 h.r1 h.h1 h.r2 h.h2 h.r3 h.h3 h.r4 h.h4 h.r5 h.h5 (right_f s hb)
theorem sameC (s : Syst) (p q : Ad) (W : World) (h1 : SysC W s p) (h2 : SysC W s q) (hb : Bd s) : Calls Try.prog 12 #[.agg (sysA s p), .agg (sysA s q)] W (fun e w' => e = .returned (.bool true) ∧ Below W.heap.size W w') :=
  downpourref20_Same.calls 1000 p.a0 p.c0 s.th p.a1 p.c1 s.at_ p.a2 p.c2 s.su p.a3 p.c3 s.lo p.a4 p.c4 s.ce p.a5 p.c5 s.ch q.a0 q.c0 s.th q.a1 q.c1 s.at_ q.a2 q.c2 s.su q.a3 q.c3 s.lo q.a4 q.c4 s.ce q.a5 q.c5 s.ch true W h1.r0 h1.h0 h1.r1 h1.h1 h1.r2 h1.h2 h1.r3 h1.h3 h1.r4 h1.h4 h1.r5 h1.h5 h2.r0 h2.h0 h2.r1 h2.h1 h2.r2 h2.h2 h2.r3 h2.h3 h2.r4 h2.h4 h2.r5 h2.h5 (same_refl s hb)
theorem numC (A B : Option Addr) (c d : Nat) (l : List Int) (W : World) (h1 : CI W A l) (hc : l.length ≤ c) (h2 : CI W B l) (hd : l.length ≤ d) (hl : l.length ≤ 900) : Calls Try.prog 14 #[.slice A l.length c, .slice B l.length d] W (fun e w' => e = .returned (.bool true) ∧ Below W.heap.size W w') :=
  (downpourref01_Numbers.calls 1000 A c l B d l true W h1 hc h2 hd (num_refl l (by omega) 1000 (by omega))).mono (by
    rintro e w' ⟨rfl, hd⟩
    exact ⟨rfl, hd.below⟩)
theorem noneBd : Bd Syst.none := by
  constructor <;> simp [Syst.none]
theorem build26z (W : World) : (Instr.build 26 #[]).run Try.prog W = .ok (.agg #[.slice none 0 0, .slice none 0 0, .slice none 0 0, .slice none 0 0, .slice none 0 0, .slice none 0 0]) W := by
  go_simp
end Go.Proofs.Ythnimpbcfegmjaa.Own

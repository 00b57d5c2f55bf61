/-
  Words that the kit's print lays for this seat, without those that no text of the claim names.
-/
import Derived.Test.YthnimpbcfegmjaaWTab
namespace Go.Proofs.YthnimpbcfegmjaaW.PrintLast
section
variable {P : Program} {ops : Array Oper} {Q : Exit → Act → World → Prop} {md : Region.Mode} {S : World → Prop} {ds : List Nat} {T : Bool × List (List Nat × List Nat)}
end
end Go.Proofs.YthnimpbcfegmjaaW.PrintLast

/-
  Words that the kit's print lays for this seat, without those that no text of the claim names.
-/
import Derived.Test.YthnimpbcfegmjaaWInv
import Derived.Test.YthnimpbcfegmjaaWFootNe
namespace Go.Proofs.YthnimpbcfegmjaaW.PrintWords
open Go.RowKit
end Go.Proofs.YthnimpbcfegmjaaW.PrintWords
namespace Go.Proofs.YthnimpbcfegmjaaW.PrintLast
section
variable {ops : Array Oper} {a : Act} {o og : Oper} {g : Nat} {t : Tmp} {u : Bool}
end
end Go.Proofs.YthnimpbcfegmjaaW.PrintLast

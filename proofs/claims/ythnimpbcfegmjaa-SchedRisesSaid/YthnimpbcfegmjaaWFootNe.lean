/-
  Words that the kit's print lays for this seat, without those that no text of the claim names.
-/
import Derived.Test.YthnimpbcfegmjaaWN
namespace Go.Proofs.YthnimpbcfegmjaaW.PrintWords
open Go.RowKit
namespace Kd
section
variable {α : Type} {d : Kd α} {W : World} {g n : Nat} {S ok : Nat → Prop} {A : Option Addr} {ad : Addr} {xs : List α}
end
end Kd
end Go.Proofs.YthnimpbcfegmjaaW.PrintWords

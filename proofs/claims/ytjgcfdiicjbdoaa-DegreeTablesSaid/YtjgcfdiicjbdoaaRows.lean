/-
  No cell of these rows narrows 'for every input' (looked for: loops, veiled, ifaces, maps, wideKeys, modest, calm, conditions, laid).
  DERIVED. THE GIVEN ROWS OF THIS SEAT. 4 by the template 'for every input the law returns true; each argument reads behind the call as it read before'; 0 by the template 'total and deterministic' (their statements: YtjgcfdiicjbdoaaTotals.lean).
  GIVEN WITH THE SEED: the statements are not yours to turn. If you find one false, say at which input.
  Laid BY PROGRAM, IN A SANDBOX (cutbox-rows.mjs): the forced cells as the released guide's own fill.sh prints them over the translation 62abbf472afbd095… (all of the seat's roots in one cut). By AI agents, Wed Nov 11 2026. No macro, syntax, notation, axiom, sorry.
-/
import Derived.Test.YtjgcfdiicjbdoaaChecked
import GoSem.Claim
import GoSem.ClaimJoined
import GoSem.ClaimMapViews
import Derived.JoinedTies
import Derived.KernelRfl
namespace Go.Proofs.Ytjgcfdiicjbdoaa
/- THE CELL 'sum', in the pinned program and in every row, IS THE sha256 OF THE DUMP (.gsa) THAT YtjgcfdiicjbdoaaProg.lean LOADS. Nothing in Lean hashes anything: it is a label: what it is worth is what the hold of that sum in a sandbox is worth. -/
noncomputable def Try.pinned : Pinned := { name := "ytjgcfdiicjbdoaa", sum := "62abbf472afbd0957e0600d93797d21eb439376dc4db2e44eb7ef7ddbf6e1d0e", checked := Try.checked }
namespace Rows
def none {H : Type} : Left H := { results := [], args := [] }

/-- 'downpourlaw07.DegreePicks': WHATEVER THE INPUT: true; the input reads as it did. -/
def degreePicksSpec : ChangeSpec := { name := "degreePicks", fn := fun _ => fun
  | [d1, d2] => { results := [.lit (.bool true)], args := [d1, d2] }
  | _ => none }
def degreePicksRow : OpenClaim := { program := "ytjgcfdiicjbdoaa", sum := "62abbf472afbd0957e0600d93797d21eb439376dc4db2e44eb7ef7ddbf6e1d0e", func := "downpour/downpourlaw07.DegreePicks", spec := "degreePicks", unfollowed := true, recurses := true, apart := false }
def DegreePicksSaid : Prop := degreePicksRow.holds Try.pinned (OpenSpec.ofChange degreePicksSpec)

/-- ITS FALSE NEIGHBOUR: 'it returns false'. Refute it at one input. -/
def degreePicksWrong : ChangeSpec := { name := "degreePicks", fn := fun _ => fun
  | [d1, d2] => { results := [.lit (.bool false)], args := [d1, d2] }
  | _ => none }
def DegreePicksWrongFalsely : Prop := degreePicksRow.holds Try.pinned (OpenSpec.ofChange degreePicksWrong)

/-- 'downpourlaw07.DegreeRoots': WHATEVER THE INPUT: true; the input reads as it did. -/
def degreeRootsSpec : ChangeSpec := { name := "degreeRoots", fn := fun _ => fun
  | [d] => { results := [.lit (.bool true)], args := [d] }
  | _ => none }
def degreeRootsRow : OpenClaim := { program := "ytjgcfdiicjbdoaa", sum := "62abbf472afbd0957e0600d93797d21eb439376dc4db2e44eb7ef7ddbf6e1d0e", func := "downpour/downpourlaw07.DegreeRoots", spec := "degreeRoots", unfollowed := true, recurses := true, apart := false }
def DegreeRootsSaid : Prop := degreeRootsRow.holds Try.pinned (OpenSpec.ofChange degreeRootsSpec)

/-- ITS FALSE NEIGHBOUR: 'it returns false'. Refute it at one input. -/
def degreeRootsWrong : ChangeSpec := { name := "degreeRoots", fn := fun _ => fun
  | [d] => { results := [.lit (.bool false)], args := [d] }
  | _ => none }
def DegreeRootsWrongFalsely : Prop := degreeRootsRow.holds Try.pinned (OpenSpec.ofChange degreeRootsWrong)

/-- 'downpourlaw07.DegreeTables': WHATEVER THE INPUT: true; the input reads as it did. -/
def degreeTablesSpec : ChangeSpec := { name := "degreeTables", fn := fun _ => fun
  | [d1, d2] => { results := [.lit (.bool true)], args := [d1, d2] }
  | _ => none }
def degreeTablesRow : OpenClaim := { program := "ytjgcfdiicjbdoaa", sum := "62abbf472afbd0957e0600d93797d21eb439376dc4db2e44eb7ef7ddbf6e1d0e", func := "downpour/downpourlaw07.DegreeTables", spec := "degreeTables", unfollowed := true, recurses := true, apart := false }
def DegreeTablesSaid : Prop := degreeTablesRow.holds Try.pinned (OpenSpec.ofChange degreeTablesSpec)

/-- ITS FALSE NEIGHBOUR: 'it returns false'. Refute it at one input. -/
def degreeTablesWrong : ChangeSpec := { name := "degreeTables", fn := fun _ => fun
  | [d1, d2] => { results := [.lit (.bool false)], args := [d1, d2] }
  | _ => none }
def DegreeTablesWrongFalsely : Prop := degreeTablesRow.holds Try.pinned (OpenSpec.ofChange degreeTablesWrong)

/-- 'downpourlaw07.DegreeSums': WHATEVER THE INPUT: true; the input reads as it did. -/
def degreeSumsSpec : ChangeSpec := { name := "degreeSums", fn := fun _ => fun
  | [d1, d2] => { results := [.lit (.bool true)], args := [d1, d2] }
  | _ => none }
def degreeSumsRow : OpenClaim := { program := "ytjgcfdiicjbdoaa", sum := "62abbf472afbd0957e0600d93797d21eb439376dc4db2e44eb7ef7ddbf6e1d0e", func := "downpour/downpourlaw07.DegreeSums", spec := "degreeSums", unfollowed := true, recurses := true, apart := false }
def DegreeSumsSaid : Prop := degreeSumsRow.holds Try.pinned (OpenSpec.ofChange degreeSumsSpec)

/-- ITS FALSE NEIGHBOUR: 'it returns false'. Refute it at one input. -/
def degreeSumsWrong : ChangeSpec := { name := "degreeSums", fn := fun _ => fun
  | [d1, d2] => { results := [.lit (.bool false)], args := [d1, d2] }
  | _ => none }
def DegreeSumsWrongFalsely : Prop := degreeSumsRow.holds Try.pinned (OpenSpec.ofChange degreeSumsWrong)

/- THE SECOND FORM. 'bulk': how many values and letters a reading holds, each counted each time it is reached (what is shared counts as often as it is met; a slice's spare places count too). A statement '..UptoSaid' is the law's where the arguments, and the package variables that the reading takes, are together of bulk at most 1048576: NARROWER than '..Said'. Prove '..Said' where nothing that the law and all that it calls make is longer than what came in: it says more and counts as full. Else prove '..UptoSaid'. A law counts once. -/
mutual
def uptoBulk {H : Type} : DataW H → Nat
  | .lit (.string bytes) => bytes.length + 1
  | .lit _ => 1
  | .nil => 1
  | .ptr d => uptoBulk d + 1
  | .slice elems spare => uptoBulkAll elems + uptoBulkAll spare + 1
  | .agg parts => uptoBulkAll parts + 1
  | .iface _ d => uptoBulk d + 1
  | .map entries => uptoBulkEntries entries + 1
  | .held _ => 1
def uptoBulkAll {H : Type} : List (DataW H) → Nat
  | [] => 0
  | d :: r => uptoBulk d + uptoBulkAll r
def uptoBulkEntries {H : Type} : List (Lit × DataW H) → Nat
  | [] => 0
  | x :: r => uptoBulkEntry x + uptoBulkEntries r
def uptoBulkEntry {H : Type} : Lit × DataW H → Nat
  | (.string bytes, d) => bytes.length + uptoBulk d + 1
  | (_, d) => uptoBulk d + 1
 end
def uptoSmall : (H : Type) → List (DataW H) → Bool := fun _ ds => decide (uptoBulkAll ds ≤ 1048576)
def OpenSpec.upto (s : _root_.Go.ChangeSpec) : _root_.Go.OpenSpec := { _root_.Go.OpenSpec.ofChange s with cond := some uptoSmall }

/-- 'downpourlaw07.DegreePicks', WHERE WHAT IT READS IS OF BULK AT MOST 1048576: true; the input reads as it did. -/
def degreePicksUptoRow : OpenClaim := { program := "ytjgcfdiicjbdoaa", sum := "62abbf472afbd0957e0600d93797d21eb439376dc4db2e44eb7ef7ddbf6e1d0e", func := "downpour/downpourlaw07.DegreePicks", spec := "degreePicks", unfollowed := true, recurses := true, apart := false, narrowed := true }
def DegreePicksUptoSaid : Prop := degreePicksUptoRow.holds Try.pinned (OpenSpec.upto degreePicksSpec)

/-- 'downpourlaw07.DegreeRoots', WHERE WHAT IT READS IS OF BULK AT MOST 1048576: true; the input reads as it did. -/
def degreeRootsUptoRow : OpenClaim := { program := "ytjgcfdiicjbdoaa", sum := "62abbf472afbd0957e0600d93797d21eb439376dc4db2e44eb7ef7ddbf6e1d0e", func := "downpour/downpourlaw07.DegreeRoots", spec := "degreeRoots", unfollowed := true, recurses := true, apart := false, narrowed := true }
def DegreeRootsUptoSaid : Prop := degreeRootsUptoRow.holds Try.pinned (OpenSpec.upto degreeRootsSpec)

/-- 'downpourlaw07.DegreeTables', WHERE WHAT IT READS IS OF BULK AT MOST 1048576: true; the input reads as it did. -/
def degreeTablesUptoRow : OpenClaim := { program := "ytjgcfdiicjbdoaa", sum := "62abbf472afbd0957e0600d93797d21eb439376dc4db2e44eb7ef7ddbf6e1d0e", func := "downpour/downpourlaw07.DegreeTables", spec := "degreeTables", unfollowed := true, recurses := true, apart := false, narrowed := true }
def DegreeTablesUptoSaid : Prop := degreeTablesUptoRow.holds Try.pinned (OpenSpec.upto degreeTablesSpec)

/-- 'downpourlaw07.DegreeSums', WHERE WHAT IT READS IS OF BULK AT MOST 1048576: true; the input reads as it did. -/
def degreeSumsUptoRow : OpenClaim := { program := "ytjgcfdiicjbdoaa", sum := "62abbf472afbd0957e0600d93797d21eb439376dc4db2e44eb7ef7ddbf6e1d0e", func := "downpour/downpourlaw07.DegreeSums", spec := "degreeSums", unfollowed := true, recurses := true, apart := false, narrowed := true }
def DegreeSumsUptoSaid : Prop := degreeSumsUptoRow.holds Try.pinned (OpenSpec.upto degreeSumsSpec)

end Rows
end Go.Proofs.Ytjgcfdiicjbdoaa

/-
  No cell of these rows narrows 'for every input' (looked for: loops, veiled, ifaces, maps, wideKeys, modest, calm, conditions, laid).
  DERIVED. THE GIVEN ROWS OF THIS SEAT. 6 by the template 'for every input the law returns true; each argument reads behind the call as it read before'; 0 by the template 'total and deterministic' (their statements: YtfjmbmlmbchglaaTotals.lean).
  GIVEN WITH THE SEED: the statements are not yours to turn. If you find one false, say at which input.
  Laid BY PROGRAM, IN A SANDBOX (cutbox-rows.mjs): the forced cells as the released guide's own fill.sh prints them over the translation eba7c275c961aef7… (all of the seat's roots in one cut). By AI agents, Wed Nov 11 2026. No macro, syntax, notation, axiom, sorry.
-/
import Derived.Test.YtfjmbmlmbchglaaChecked
import GoSem.Claim
import GoSem.ClaimJoined
import GoSem.ClaimMapViews
import Derived.JoinedTies
import Derived.KernelRfl
namespace Go.Proofs.Ytfjmbmlmbchglaa
/- THE CELL 'sum', in the pinned program and in every row, IS THE sha256 OF THE DUMP (.gsa) THAT YtfjmbmlmbchglaaProg.lean LOADS. Nothing in Lean hashes anything: it is a label: what it is worth is what the hold of that sum in a sandbox is worth. -/
noncomputable def Try.pinned : Pinned := { name := "ytfjmbmlmbchglaa", sum := "eba7c275c961aef73ca8cf48716fcdf8bc46f3995e621039146d4f1aaadb1d12", checked := Try.checked }
namespace Rows
def none {H : Type} : Left H := { results := [], args := [] }

/-- 'casematelaw03.PolyRoots': WHATEVER THE INPUT: true; the input reads as it did. -/
def polyRootsSpec : ChangeSpec := { name := "polyRoots", fn := fun _ => fun
  | [d1, d2] => { results := [.lit (.bool true)], args := [d1, d2] }
  | _ => none }
def polyRootsRow : OpenClaim := { program := "ytfjmbmlmbchglaa", sum := "eba7c275c961aef73ca8cf48716fcdf8bc46f3995e621039146d4f1aaadb1d12", func := "casemate/casematelaw03.PolyRoots", spec := "polyRoots", unfollowed := true, recurses := true, apart := false }
def PolyRootsSaid : Prop := polyRootsRow.holds Try.pinned (OpenSpec.ofChange polyRootsSpec)

/-- ITS FALSE NEIGHBOUR: 'it returns false'. Refute it at one input. -/
def polyRootsWrong : ChangeSpec := { name := "polyRoots", fn := fun _ => fun
  | [d1, d2] => { results := [.lit (.bool false)], args := [d1, d2] }
  | _ => none }
def PolyRootsWrongFalsely : Prop := polyRootsRow.holds Try.pinned (OpenSpec.ofChange polyRootsWrong)

/-- 'casematelaw03.PolyLengths': WHATEVER THE INPUT: true; the input reads as it did. -/
def polyLengthsSpec : ChangeSpec := { name := "polyLengths", fn := fun _ => fun
  | [d1, d2] => { results := [.lit (.bool true)], args := [d1, d2] }
  | _ => none }
def polyLengthsRow : OpenClaim := { program := "ytfjmbmlmbchglaa", sum := "eba7c275c961aef73ca8cf48716fcdf8bc46f3995e621039146d4f1aaadb1d12", func := "casemate/casematelaw03.PolyLengths", spec := "polyLengths", unfollowed := true, recurses := true, apart := false }
def PolyLengthsSaid : Prop := polyLengthsRow.holds Try.pinned (OpenSpec.ofChange polyLengthsSpec)

/-- ITS FALSE NEIGHBOUR: 'it returns false'. Refute it at one input. -/
def polyLengthsWrong : ChangeSpec := { name := "polyLengths", fn := fun _ => fun
  | [d1, d2] => { results := [.lit (.bool false)], args := [d1, d2] }
  | _ => none }
def PolyLengthsWrongFalsely : Prop := polyLengthsRow.holds Try.pinned (OpenSpec.ofChange polyLengthsWrong)

/-- 'casematelaw03.PolyLaws': WHATEVER THE INPUT: true; the input reads as it did. -/
def polyLawsSpec : ChangeSpec := { name := "polyLaws", fn := fun _ => fun
  | [d1, d2, d3] => { results := [.lit (.bool true)], args := [d1, d2, d3] }
  | _ => none }
def polyLawsRow : OpenClaim := { program := "ytfjmbmlmbchglaa", sum := "eba7c275c961aef73ca8cf48716fcdf8bc46f3995e621039146d4f1aaadb1d12", func := "casemate/casematelaw03.PolyLaws", spec := "polyLaws", unfollowed := true, recurses := true, apart := false }
def PolyLawsSaid : Prop := polyLawsRow.holds Try.pinned (OpenSpec.ofChange polyLawsSpec)

/-- ITS FALSE NEIGHBOUR: 'it returns false'. Refute it at one input. -/
def polyLawsWrong : ChangeSpec := { name := "polyLaws", fn := fun _ => fun
  | [d1, d2, d3] => { results := [.lit (.bool false)], args := [d1, d2, d3] }
  | _ => none }
def PolyLawsWrongFalsely : Prop := polyLawsRow.holds Try.pinned (OpenSpec.ofChange polyLawsWrong)

/-- 'casematelaw03.PolyReckons': WHATEVER THE INPUT: true; the input reads as it did. -/
def polyReckonsSpec : ChangeSpec := { name := "polyReckons", fn := fun _ => fun
  | [d1, d2, d3] => { results := [.lit (.bool true)], args := [d1, d2, d3] }
  | _ => none }
def polyReckonsRow : OpenClaim := { program := "ytfjmbmlmbchglaa", sum := "eba7c275c961aef73ca8cf48716fcdf8bc46f3995e621039146d4f1aaadb1d12", func := "casemate/casematelaw03.PolyReckons", spec := "polyReckons", unfollowed := true, recurses := true, apart := false }
def PolyReckonsSaid : Prop := polyReckonsRow.holds Try.pinned (OpenSpec.ofChange polyReckonsSpec)

/-- ITS FALSE NEIGHBOUR: 'it returns false'. Refute it at one input. -/
def polyReckonsWrong : ChangeSpec := { name := "polyReckons", fn := fun _ => fun
  | [d1, d2, d3] => { results := [.lit (.bool false)], args := [d1, d2, d3] }
  | _ => none }
def PolyReckonsWrongFalsely : Prop := polyReckonsRow.holds Try.pinned (OpenSpec.ofChange polyReckonsWrong)

/-- 'casematelaw03.PolyValues': WHATEVER THE INPUT: true; the input reads as it did. -/
def polyValuesSpec : ChangeSpec := { name := "polyValues", fn := fun _ => fun
  | [d1, d2, d3] => { results := [.lit (.bool true)], args := [d1, d2, d3] }
  | _ => none }
def polyValuesRow : OpenClaim := { program := "ytfjmbmlmbchglaa", sum := "eba7c275c961aef73ca8cf48716fcdf8bc46f3995e621039146d4f1aaadb1d12", func := "casemate/casematelaw03.PolyValues", spec := "polyValues", unfollowed := true, recurses := true, apart := false }
def PolyValuesSaid : Prop := polyValuesRow.holds Try.pinned (OpenSpec.ofChange polyValuesSpec)

/-- ITS FALSE NEIGHBOUR: 'it returns false'. Refute it at one input. -/
def polyValuesWrong : ChangeSpec := { name := "polyValues", fn := fun _ => fun
  | [d1, d2, d3] => { results := [.lit (.bool false)], args := [d1, d2, d3] }
  | _ => none }
def PolyValuesWrongFalsely : Prop := polyValuesRow.holds Try.pinned (OpenSpec.ofChange polyValuesWrong)

/-- 'casematelaw03.PolyTwice': WHATEVER THE INPUT: true; the input reads as it did. -/
def polyTwiceSpec : ChangeSpec := { name := "polyTwice", fn := fun _ => fun
  | [d1, d2] => { results := [.lit (.bool true)], args := [d1, d2] }
  | _ => none }
def polyTwiceRow : OpenClaim := { program := "ytfjmbmlmbchglaa", sum := "eba7c275c961aef73ca8cf48716fcdf8bc46f3995e621039146d4f1aaadb1d12", func := "casemate/casematelaw03.PolyTwice", spec := "polyTwice", unfollowed := true, recurses := true, apart := false }
def PolyTwiceSaid : Prop := polyTwiceRow.holds Try.pinned (OpenSpec.ofChange polyTwiceSpec)

/-- ITS FALSE NEIGHBOUR: 'it returns false'. Refute it at one input. -/
def polyTwiceWrong : ChangeSpec := { name := "polyTwice", fn := fun _ => fun
  | [d1, d2] => { results := [.lit (.bool false)], args := [d1, d2] }
  | _ => none }
def PolyTwiceWrongFalsely : Prop := polyTwiceRow.holds Try.pinned (OpenSpec.ofChange polyTwiceWrong)

/- THE SECOND FORM. 'bulk': how many values and letters a reading holds, each counted each time it is reached (what is shared counts as often as it is met; a slice's spare places count too). A statement '..UptoSaid' is the law's where the arguments, and the package variables that the reading takes, are together of bulk at most 1048576: NARROWER than '..Said'. Prove '..Said' where nothing that the law and all that it calls make is longer than what came in: it says more and counts as full. Else prove '..UptoSaid'. A law counts once. -/
mutual
def uptoBulk {H : Type} : DataW H → Nat
  | .lit (.string bytes) => bytes.length + 1
  | .lit _ => 1
  | .nil => 1
  | .ptr d => uptoBulk d + 1
  | .slice elems spare => uptoBulkAll elems + uptoBulkAll spare + 1
  | .agg parts => uptoBulkAll parts + 1
  | .iface _ d => uptoBulk d + 1
  | .map entries => uptoBulkEntries entries + 1
  | .held _ => 1
def uptoBulkAll {H : Type} : List (DataW H) → Nat
  | [] => 0
  | d :: r => uptoBulk d + uptoBulkAll r
def uptoBulkEntries {H : Type} : List (Lit × DataW H) → Nat
  | [] => 0
  | x :: r => uptoBulkEntry x + uptoBulkEntries r
def uptoBulkEntry {H : Type} : Lit × DataW H → Nat
  | (.string bytes, d) => bytes.length + uptoBulk d + 1
  | (_, d) => uptoBulk d + 1
 end
def uptoSmall : (H : Type) → List (DataW H) → Bool := fun _ ds => decide (uptoBulkAll ds ≤ 1048576)
def OpenSpec.upto (s : _root_.Go.ChangeSpec) : _root_.Go.OpenSpec := { _root_.Go.OpenSpec.ofChange s with cond := some uptoSmall }

/-- 'casematelaw03.PolyRoots', WHERE WHAT IT READS IS OF BULK AT MOST 1048576: true; the input reads as it did. -/
def polyRootsUptoRow : OpenClaim := { program := "ytfjmbmlmbchglaa", sum := "eba7c275c961aef73ca8cf48716fcdf8bc46f3995e621039146d4f1aaadb1d12", func := "casemate/casematelaw03.PolyRoots", spec := "polyRoots", unfollowed := true, recurses := true, apart := false, narrowed := true }
def PolyRootsUptoSaid : Prop := polyRootsUptoRow.holds Try.pinned (OpenSpec.upto polyRootsSpec)

/-- 'casematelaw03.PolyLengths', WHERE WHAT IT READS IS OF BULK AT MOST 1048576: true; the input reads as it did. -/
def polyLengthsUptoRow : OpenClaim := { program := "ytfjmbmlmbchglaa", sum := "eba7c275c961aef73ca8cf48716fcdf8bc46f3995e621039146d4f1aaadb1d12", func := "casemate/casematelaw03.PolyLengths", spec := "polyLengths", unfollowed := true, recurses := true, apart := false, narrowed := true }
def PolyLengthsUptoSaid : Prop := polyLengthsUptoRow.holds Try.pinned (OpenSpec.upto polyLengthsSpec)

/-- 'casematelaw03.PolyLaws', WHERE WHAT IT READS IS OF BULK AT MOST 1048576: true; the input reads as it did. -/
def polyLawsUptoRow : OpenClaim := { program := "ytfjmbmlmbchglaa", sum := "eba7c275c961aef73ca8cf48716fcdf8bc46f3995e621039146d4f1aaadb1d12", func := "casemate/casematelaw03.PolyLaws", spec := "polyLaws", unfollowed := true, recurses := true, apart := false, narrowed := true }
def PolyLawsUptoSaid : Prop := polyLawsUptoRow.holds Try.pinned (OpenSpec.upto polyLawsSpec)

/-- 'casematelaw03.PolyReckons', WHERE WHAT IT READS IS OF BULK AT MOST 1048576: true; the input reads as it did. -/
def polyReckonsUptoRow : OpenClaim := { program := "ytfjmbmlmbchglaa", sum := "eba7c275c961aef73ca8cf48716fcdf8bc46f3995e621039146d4f1aaadb1d12", func := "casemate/casematelaw03.PolyReckons", spec := "polyReckons", unfollowed := true, recurses := true, apart := false, narrowed := true }
def PolyReckonsUptoSaid : Prop := polyReckonsUptoRow.holds Try.pinned (OpenSpec.upto polyReckonsSpec)

/-- 'casematelaw03.PolyValues', WHERE WHAT IT READS IS OF BULK AT MOST 1048576: true; the input reads as it did. -/
def polyValuesUptoRow : OpenClaim := { program := "ytfjmbmlmbchglaa", sum := "eba7c275c961aef73ca8cf48716fcdf8bc46f3995e621039146d4f1aaadb1d12", func := "casemate/casematelaw03.PolyValues", spec := "polyValues", unfollowed := true, recurses := true, apart := false, narrowed := true }
def PolyValuesUptoSaid : Prop := polyValuesUptoRow.holds Try.pinned (OpenSpec.upto polyValuesSpec)

/-- 'casematelaw03.PolyTwice', WHERE WHAT IT READS IS OF BULK AT MOST 1048576: true; the input reads as it did. -/
def polyTwiceUptoRow : OpenClaim := { program := "ytfjmbmlmbchglaa", sum := "eba7c275c961aef73ca8cf48716fcdf8bc46f3995e621039146d4f1aaadb1d12", func := "casemate/casematelaw03.PolyTwice", spec := "polyTwice", unfollowed := true, recurses := true, apart := false, narrowed := true }
def PolyTwiceUptoSaid : Prop := polyTwiceUptoRow.holds Try.pinned (OpenSpec.upto polyTwiceSpec)

end Rows
end Go.Proofs.Ytfjmbmlmbchglaa

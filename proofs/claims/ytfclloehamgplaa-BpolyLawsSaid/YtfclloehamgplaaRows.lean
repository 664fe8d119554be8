/-
  No cell of these rows narrows 'for every input' (looked for: loops, veiled, ifaces, maps, wideKeys, modest, calm, conditions, laid).
  DERIVED. THE GIVEN ROWS OF THIS SEAT. 6 by the template 'for every input the law returns true; each argument reads behind the call as it read before'; 0 by the template 'total and deterministic' (their statements: YtfclloehamgplaaTotals.lean).
  GIVEN WITH THE SEED: the statements are not yours to turn. If you find one false, say at which input.
  Laid BY PROGRAM, IN A SANDBOX (cutbox-rows.mjs): the forced cells as the released guide's own fill.sh prints them over the translation 957e25b1e0893902… (all of the seat's roots in one cut). By AI agents, Wed Nov 11 2026. No macro, syntax, notation, axiom, sorry.
-/
import Derived.Test.YtfclloehamgplaaChecked
import GoSem.Claim
import GoSem.ClaimJoined
import GoSem.ClaimMapViews
import Derived.JoinedTies
import Derived.KernelRfl
namespace Go.Proofs.Ytfclloehamgplaa
/- THE CELL 'sum', in the pinned program and in every row, IS THE sha256 OF THE DUMP (.gsa) THAT YtfclloehamgplaaProg.lean LOADS. Nothing in Lean hashes anything: it is a label: what it is worth is what the hold of that sum in a sandbox is worth. -/
noncomputable def Try.pinned : Pinned := { name := "ytfclloehamgplaa", sum := "957e25b1e08939026ae1a8d91f0b2b74aed5455a83b88cec12eb9ee0282774cd", checked := Try.checked }
namespace Rows
def none {H : Type} : Left H := { results := [], args := [] }

/-- 'casematelaw04.BpolyMinimal': WHATEVER THE INPUT: true; the input reads as it did. -/
def bpolyMinimalSpec : ChangeSpec := { name := "bpolyMinimal", fn := fun _ => fun
  | [d] => { results := [.lit (.bool true)], args := [d] }
  | _ => none }
def bpolyMinimalRow : OpenClaim := { program := "ytfclloehamgplaa", sum := "957e25b1e08939026ae1a8d91f0b2b74aed5455a83b88cec12eb9ee0282774cd", func := "casemate/casematelaw04.BpolyMinimal", spec := "bpolyMinimal", unfollowed := true, recurses := true, apart := false }
def BpolyMinimalSaid : Prop := bpolyMinimalRow.holds Try.pinned (OpenSpec.ofChange bpolyMinimalSpec)

/-- ITS FALSE NEIGHBOUR: 'it returns false'. Refute it at one input. -/
def bpolyMinimalWrong : ChangeSpec := { name := "bpolyMinimal", fn := fun _ => fun
  | [d] => { results := [.lit (.bool false)], args := [d] }
  | _ => none }
def BpolyMinimalWrongFalsely : Prop := bpolyMinimalRow.holds Try.pinned (OpenSpec.ofChange bpolyMinimalWrong)

/-- 'casematelaw04.BpolyGenerators': WHATEVER THE INPUT: true; the input reads as it did. -/
def bpolyGeneratorsSpec : ChangeSpec := { name := "bpolyGenerators", fn := fun _ => fun
  | [d] => { results := [.lit (.bool true)], args := [d] }
  | _ => none }
def bpolyGeneratorsRow : OpenClaim := { program := "ytfclloehamgplaa", sum := "957e25b1e08939026ae1a8d91f0b2b74aed5455a83b88cec12eb9ee0282774cd", func := "casemate/casematelaw04.BpolyGenerators", spec := "bpolyGenerators", unfollowed := true, recurses := true, apart := false }
def BpolyGeneratorsSaid : Prop := bpolyGeneratorsRow.holds Try.pinned (OpenSpec.ofChange bpolyGeneratorsSpec)

/-- ITS FALSE NEIGHBOUR: 'it returns false'. Refute it at one input. -/
def bpolyGeneratorsWrong : ChangeSpec := { name := "bpolyGenerators", fn := fun _ => fun
  | [d] => { results := [.lit (.bool false)], args := [d] }
  | _ => none }
def BpolyGeneratorsWrongFalsely : Prop := bpolyGeneratorsRow.holds Try.pinned (OpenSpec.ofChange bpolyGeneratorsWrong)

/-- 'casematelaw04.BpolyLeast': WHATEVER THE INPUT: true; the input reads as it did. -/
def bpolyLeastSpec : ChangeSpec := { name := "bpolyLeast", fn := fun _ => fun
  | [d1, d2] => { results := [.lit (.bool true)], args := [d1, d2] }
  | _ => none }
def bpolyLeastRow : OpenClaim := { program := "ytfclloehamgplaa", sum := "957e25b1e08939026ae1a8d91f0b2b74aed5455a83b88cec12eb9ee0282774cd", func := "casemate/casematelaw04.BpolyLeast", spec := "bpolyLeast", unfollowed := true, recurses := true, apart := false }
def BpolyLeastSaid : Prop := bpolyLeastRow.holds Try.pinned (OpenSpec.ofChange bpolyLeastSpec)

/-- ITS FALSE NEIGHBOUR: 'it returns false'. Refute it at one input. -/
def bpolyLeastWrong : ChangeSpec := { name := "bpolyLeast", fn := fun _ => fun
  | [d1, d2] => { results := [.lit (.bool false)], args := [d1, d2] }
  | _ => none }
def BpolyLeastWrongFalsely : Prop := bpolyLeastRow.holds Try.pinned (OpenSpec.ofChange bpolyLeastWrong)

/-- 'casematelaw04.BpolyReckons': WHATEVER THE INPUT: true; the input reads as it did. -/
def bpolyReckonsSpec : ChangeSpec := { name := "bpolyReckons", fn := fun _ => fun
  | [d1, d2, d3] => { results := [.lit (.bool true)], args := [d1, d2, d3] }
  | _ => none }
def bpolyReckonsRow : OpenClaim := { program := "ytfclloehamgplaa", sum := "957e25b1e08939026ae1a8d91f0b2b74aed5455a83b88cec12eb9ee0282774cd", func := "casemate/casematelaw04.BpolyReckons", spec := "bpolyReckons", unfollowed := true, recurses := true, apart := false }
def BpolyReckonsSaid : Prop := bpolyReckonsRow.holds Try.pinned (OpenSpec.ofChange bpolyReckonsSpec)

/-- ITS FALSE NEIGHBOUR: 'it returns false'. Refute it at one input. -/
def bpolyReckonsWrong : ChangeSpec := { name := "bpolyReckons", fn := fun _ => fun
  | [d1, d2, d3] => { results := [.lit (.bool false)], args := [d1, d2, d3] }
  | _ => none }
def BpolyReckonsWrongFalsely : Prop := bpolyReckonsRow.holds Try.pinned (OpenSpec.ofChange bpolyReckonsWrong)

/-- 'casematelaw04.BpolyLaws': WHATEVER THE INPUT: true; the input reads as it did. -/
def bpolyLawsSpec : ChangeSpec := { name := "bpolyLaws", fn := fun _ => fun
  | [d1, d2, d3, d4] => { results := [.lit (.bool true)], args := [d1, d2, d3, d4] }
  | _ => none }
def bpolyLawsRow : OpenClaim := { program := "ytfclloehamgplaa", sum := "957e25b1e08939026ae1a8d91f0b2b74aed5455a83b88cec12eb9ee0282774cd", func := "casemate/casematelaw04.BpolyLaws", spec := "bpolyLaws", unfollowed := true, recurses := true, apart := false }
def BpolyLawsSaid : Prop := bpolyLawsRow.holds Try.pinned (OpenSpec.ofChange bpolyLawsSpec)

/-- ITS FALSE NEIGHBOUR: 'it returns false'. Refute it at one input. -/
def bpolyLawsWrong : ChangeSpec := { name := "bpolyLaws", fn := fun _ => fun
  | [d1, d2, d3, d4] => { results := [.lit (.bool false)], args := [d1, d2, d3, d4] }
  | _ => none }
def BpolyLawsWrongFalsely : Prop := bpolyLawsRow.holds Try.pinned (OpenSpec.ofChange bpolyLawsWrong)

/-- 'casematelaw04.BpolySums': WHATEVER THE INPUT: true; the input reads as it did. -/
def bpolySumsSpec : ChangeSpec := { name := "bpolySums", fn := fun _ => fun
  | [d1, d2, d3] => { results := [.lit (.bool true)], args := [d1, d2, d3] }
  | _ => none }
def bpolySumsRow : OpenClaim := { program := "ytfclloehamgplaa", sum := "957e25b1e08939026ae1a8d91f0b2b74aed5455a83b88cec12eb9ee0282774cd", func := "casemate/casematelaw04.BpolySums", spec := "bpolySums", unfollowed := true, recurses := true, apart := false }
def BpolySumsSaid : Prop := bpolySumsRow.holds Try.pinned (OpenSpec.ofChange bpolySumsSpec)

/-- ITS FALSE NEIGHBOUR: 'it returns false'. Refute it at one input. -/
def bpolySumsWrong : ChangeSpec := { name := "bpolySums", fn := fun _ => fun
  | [d1, d2, d3] => { results := [.lit (.bool false)], args := [d1, d2, d3] }
  | _ => none }
def BpolySumsWrongFalsely : Prop := bpolySumsRow.holds Try.pinned (OpenSpec.ofChange bpolySumsWrong)

/- THE SECOND FORM. 'bulk': how many values and letters a reading holds, each counted each time it is reached (what is shared counts as often as it is met; a slice's spare places count too). A statement '..UptoSaid' is the law's where the arguments, and the package variables that the reading takes, are together of bulk at most 1048576: NARROWER than '..Said'. Prove '..Said' where nothing that the law and all that it calls make is longer than what came in: it says more and counts as full. Else prove '..UptoSaid'. A law counts once. -/
mutual
def uptoBulk {H : Type} : DataW H → Nat
  | .lit (.string bytes) => bytes.length + 1
  | .lit _ => 1
  | .nil => 1
  | .ptr d => uptoBulk d + 1
  | .slice elems spare => uptoBulkAll elems + uptoBulkAll spare + 1
  | .agg parts => uptoBulkAll parts + 1
  | .iface _ d => uptoBulk d + 1
  | .map entries => uptoBulkEntries entries + 1
  | .held _ => 1
def uptoBulkAll {H : Type} : List (DataW H) → Nat
  | [] => 0
  | d :: r => uptoBulk d + uptoBulkAll r
def uptoBulkEntries {H : Type} : List (Lit × DataW H) → Nat
  | [] => 0
  | x :: r => uptoBulkEntry x + uptoBulkEntries r
def uptoBulkEntry {H : Type} : Lit × DataW H → Nat
  | (.string bytes, d) => bytes.length + uptoBulk d + 1
  | (_, d) => uptoBulk d + 1
 end
def uptoSmall : (H : Type) → List (DataW H) → Bool := fun _ ds => decide (uptoBulkAll ds ≤ 1048576)
def OpenSpec.upto (s : _root_.Go.ChangeSpec) : _root_.Go.OpenSpec := { _root_.Go.OpenSpec.ofChange s with cond := some uptoSmall }

/-- 'casematelaw04.BpolyMinimal', WHERE WHAT IT READS IS OF BULK AT MOST 1048576: true; the input reads as it did. -/
def bpolyMinimalUptoRow : OpenClaim := { program := "ytfclloehamgplaa", sum := "957e25b1e08939026ae1a8d91f0b2b74aed5455a83b88cec12eb9ee0282774cd", func := "casemate/casematelaw04.BpolyMinimal", spec := "bpolyMinimal", unfollowed := true, recurses := true, apart := false, narrowed := true }
def BpolyMinimalUptoSaid : Prop := bpolyMinimalUptoRow.holds Try.pinned (OpenSpec.upto bpolyMinimalSpec)

/-- 'casematelaw04.BpolyGenerators', WHERE WHAT IT READS IS OF BULK AT MOST 1048576: true; the input reads as it did. -/
def bpolyGeneratorsUptoRow : OpenClaim := { program := "ytfclloehamgplaa", sum := "957e25b1e08939026ae1a8d91f0b2b74aed5455a83b88cec12eb9ee0282774cd", func := "casemate/casematelaw04.BpolyGenerators", spec := "bpolyGenerators", unfollowed := true, recurses := true, apart := false, narrowed := true }
def BpolyGeneratorsUptoSaid : Prop := bpolyGeneratorsUptoRow.holds Try.pinned (OpenSpec.upto bpolyGeneratorsSpec)

/-- 'casematelaw04.BpolyLeast', WHERE WHAT IT READS IS OF BULK AT MOST 1048576: true; the input reads as it did. -/
def bpolyLeastUptoRow : OpenClaim := { program := "ytfclloehamgplaa", sum := "957e25b1e08939026ae1a8d91f0b2b74aed5455a83b88cec12eb9ee0282774cd", func := "casemate/casematelaw04.BpolyLeast", spec := "bpolyLeast", unfollowed := true, recurses := true, apart := false, narrowed := true }
def BpolyLeastUptoSaid : Prop := bpolyLeastUptoRow.holds Try.pinned (OpenSpec.upto bpolyLeastSpec)

/-- 'casematelaw04.BpolyReckons', WHERE WHAT IT READS IS OF BULK AT MOST 1048576: true; the input reads as it did. -/
def bpolyReckonsUptoRow : OpenClaim := { program := "ytfclloehamgplaa", sum := "957e25b1e08939026ae1a8d91f0b2b74aed5455a83b88cec12eb9ee0282774cd", func := "casemate/casematelaw04.BpolyReckons", spec := "bpolyReckons", unfollowed := true, recurses := true, apart := false, narrowed := true }
def BpolyReckonsUptoSaid : Prop := bpolyReckonsUptoRow.holds Try.pinned (OpenSpec.upto bpolyReckonsSpec)

/-- 'casematelaw04.BpolyLaws', WHERE WHAT IT READS IS OF BULK AT MOST 1048576: true; the input reads as it did. -/
def bpolyLawsUptoRow : OpenClaim := { program := "ytfclloehamgplaa", sum := "957e25b1e08939026ae1a8d91f0b2b74aed5455a83b88cec12eb9ee0282774cd", func := "casemate/casematelaw04.BpolyLaws", spec := "bpolyLaws", unfollowed := true, recurses := true, apart := false, narrowed := true }
def BpolyLawsUptoSaid : Prop := bpolyLawsUptoRow.holds Try.pinned (OpenSpec.upto bpolyLawsSpec)

/-- 'casematelaw04.BpolySums', WHERE WHAT IT READS IS OF BULK AT MOST 1048576: true; the input reads as it did. -/
def bpolySumsUptoRow : OpenClaim := { program := "ytfclloehamgplaa", sum := "957e25b1e08939026ae1a8d91f0b2b74aed5455a83b88cec12eb9ee0282774cd", func := "casemate/casematelaw04.BpolySums", spec := "bpolySums", unfollowed := true, recurses := true, apart := false, narrowed := true }
def BpolySumsUptoSaid : Prop := bpolySumsUptoRow.holds Try.pinned (OpenSpec.upto bpolySumsSpec)

end Rows
end Go.Proofs.Ytfclloehamgplaa

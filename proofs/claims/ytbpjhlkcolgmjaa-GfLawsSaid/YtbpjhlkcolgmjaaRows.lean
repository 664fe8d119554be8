/-
  No cell of these rows narrows 'for every input' (looked for: loops, veiled, ifaces, maps, wideKeys, modest, calm, conditions, laid).
  DERIVED. THE GIVEN ROWS OF THIS SEAT. 7 by the template 'for every input the law returns true; each argument reads behind the call as it read before'; 0 by the template 'total and deterministic' (their statements: YtbpjhlkcolgmjaaTotals.lean).
  GIVEN WITH THE SEED: the statements are not yours to turn. If you find one false, say at which input.
  Laid BY PROGRAM, IN A SANDBOX (cutbox-rows.mjs): the forced cells as the released guide's own fill.sh prints them over the translation cc4fbd1b8d8c1407… (all of the seat's roots in one cut). By AI agents, Wed Nov 11 2026. No macro, syntax, notation, axiom, sorry.
-/
import Derived.Test.YtbpjhlkcolgmjaaChecked
import GoSem.Claim
import GoSem.ClaimJoined
import GoSem.ClaimMapViews
import Derived.JoinedTies
import Derived.KernelRfl
namespace Go.Proofs.Ytbpjhlkcolgmjaa
/- THE CELL 'sum', in the pinned program and in every row, IS THE sha256 OF THE DUMP (.gsa) THAT YtbpjhlkcolgmjaaProg.lean LOADS. Nothing in Lean hashes anything: it is a label: what it is worth is what the hold of that sum in a sandbox is worth. -/
noncomputable def Try.pinned : Pinned := { name := "ytbpjhlkcolgmjaa", sum := "cc4fbd1b8d8c14078ac7ccf9564480d2f7a42d855e8f061cfae4c70820f83054", checked := Try.checked }
namespace Rows
def none {H : Type} : Left H := { results := [], args := [] }

/-- 'casematelaw02.GfLogs': WHATEVER THE INPUT: true; the input reads as it did. -/
def gfLogsSpec : ChangeSpec := { name := "gfLogs", fn := fun _ => fun
  | [d] => { results := [.lit (.bool true)], args := [d] }
  | _ => none }
def gfLogsRow : OpenClaim := { program := "ytbpjhlkcolgmjaa", sum := "cc4fbd1b8d8c14078ac7ccf9564480d2f7a42d855e8f061cfae4c70820f83054", func := "casemate/casematelaw02.GfLogs", spec := "gfLogs", apart := false }
def GfLogsSaid : Prop := gfLogsRow.holds Try.pinned (OpenSpec.ofChange gfLogsSpec)

/-- ITS FALSE NEIGHBOUR: 'it returns false'. Refute it at one input. -/
def gfLogsWrong : ChangeSpec := { name := "gfLogs", fn := fun _ => fun
  | [d] => { results := [.lit (.bool false)], args := [d] }
  | _ => none }
def GfLogsWrongFalsely : Prop := gfLogsRow.holds Try.pinned (OpenSpec.ofChange gfLogsWrong)

/-- 'casematelaw02.GfLaws': WHATEVER THE INPUT: true; the input reads as it did. -/
def gfLawsSpec : ChangeSpec := { name := "gfLaws", fn := fun _ => fun
  | [d1, d2, d3] => { results := [.lit (.bool true)], args := [d1, d2, d3] }
  | _ => none }
def gfLawsRow : OpenClaim := { program := "ytbpjhlkcolgmjaa", sum := "cc4fbd1b8d8c14078ac7ccf9564480d2f7a42d855e8f061cfae4c70820f83054", func := "casemate/casematelaw02.GfLaws", spec := "gfLaws", apart := false }
def GfLawsSaid : Prop := gfLawsRow.holds Try.pinned (OpenSpec.ofChange gfLawsSpec)

/-- ITS FALSE NEIGHBOUR: 'it returns false'. Refute it at one input. -/
def gfLawsWrong : ChangeSpec := { name := "gfLaws", fn := fun _ => fun
  | [d1, d2, d3] => { results := [.lit (.bool false)], args := [d1, d2, d3] }
  | _ => none }
def GfLawsWrongFalsely : Prop := gfLawsRow.holds Try.pinned (OpenSpec.ofChange gfLawsWrong)

/-- 'casematelaw02.GfInverts': WHATEVER THE INPUT: true; the input reads as it did. -/
def gfInvertsSpec : ChangeSpec := { name := "gfInverts", fn := fun _ => fun
  | [d1, d2] => { results := [.lit (.bool true)], args := [d1, d2] }
  | _ => none }
def gfInvertsRow : OpenClaim := { program := "ytbpjhlkcolgmjaa", sum := "cc4fbd1b8d8c14078ac7ccf9564480d2f7a42d855e8f061cfae4c70820f83054", func := "casemate/casematelaw02.GfInverts", spec := "gfInverts", apart := false }
def GfInvertsSaid : Prop := gfInvertsRow.holds Try.pinned (OpenSpec.ofChange gfInvertsSpec)

/-- ITS FALSE NEIGHBOUR: 'it returns false'. Refute it at one input. -/
def gfInvertsWrong : ChangeSpec := { name := "gfInverts", fn := fun _ => fun
  | [d1, d2] => { results := [.lit (.bool false)], args := [d1, d2] }
  | _ => none }
def GfInvertsWrongFalsely : Prop := gfInvertsRow.holds Try.pinned (OpenSpec.ofChange gfInvertsWrong)

/-- 'casematelaw02.GfLeast': WHATEVER THE INPUT: true; the input reads as it did. -/
def gfLeastSpec : ChangeSpec := { name := "gfLeast", fn := fun _ => fun
  | [d1, d2] => { results := [.lit (.bool true)], args := [d1, d2] }
  | _ => none }
def gfLeastRow : OpenClaim := { program := "ytbpjhlkcolgmjaa", sum := "cc4fbd1b8d8c14078ac7ccf9564480d2f7a42d855e8f061cfae4c70820f83054", func := "casemate/casematelaw02.GfLeast", spec := "gfLeast", apart := false }
def GfLeastSaid : Prop := gfLeastRow.holds Try.pinned (OpenSpec.ofChange gfLeastSpec)

/-- ITS FALSE NEIGHBOUR: 'it returns false'. Refute it at one input. -/
def gfLeastWrong : ChangeSpec := { name := "gfLeast", fn := fun _ => fun
  | [d1, d2] => { results := [.lit (.bool false)], args := [d1, d2] }
  | _ => none }
def GfLeastWrongFalsely : Prop := gfLeastRow.holds Try.pinned (OpenSpec.ofChange gfLeastWrong)

/-- 'casematelaw02.GfReckons': WHATEVER THE INPUT: true; the input reads as it did. -/
def gfReckonsSpec : ChangeSpec := { name := "gfReckons", fn := fun _ => fun
  | [d1, d2, d3] => { results := [.lit (.bool true)], args := [d1, d2, d3] }
  | _ => none }
def gfReckonsRow : OpenClaim := { program := "ytbpjhlkcolgmjaa", sum := "cc4fbd1b8d8c14078ac7ccf9564480d2f7a42d855e8f061cfae4c70820f83054", func := "casemate/casematelaw02.GfReckons", spec := "gfReckons", apart := false }
def GfReckonsSaid : Prop := gfReckonsRow.holds Try.pinned (OpenSpec.ofChange gfReckonsSpec)

/-- ITS FALSE NEIGHBOUR: 'it returns false'. Refute it at one input. -/
def gfReckonsWrong : ChangeSpec := { name := "gfReckons", fn := fun _ => fun
  | [d1, d2, d3] => { results := [.lit (.bool false)], args := [d1, d2, d3] }
  | _ => none }
def GfReckonsWrongFalsely : Prop := gfReckonsRow.holds Try.pinned (OpenSpec.ofChange gfReckonsWrong)

/-- 'casematelaw02.GfPowers': WHATEVER THE INPUT: true; the input reads as it did. -/
def gfPowersSpec : ChangeSpec := { name := "gfPowers", fn := fun _ => fun
  | [d1, d2, d3] => { results := [.lit (.bool true)], args := [d1, d2, d3] }
  | _ => none }
def gfPowersRow : OpenClaim := { program := "ytbpjhlkcolgmjaa", sum := "cc4fbd1b8d8c14078ac7ccf9564480d2f7a42d855e8f061cfae4c70820f83054", func := "casemate/casematelaw02.GfPowers", spec := "gfPowers", apart := false }
def GfPowersSaid : Prop := gfPowersRow.holds Try.pinned (OpenSpec.ofChange gfPowersSpec)

/-- ITS FALSE NEIGHBOUR: 'it returns false'. Refute it at one input. -/
def gfPowersWrong : ChangeSpec := { name := "gfPowers", fn := fun _ => fun
  | [d1, d2, d3] => { results := [.lit (.bool false)], args := [d1, d2, d3] }
  | _ => none }
def GfPowersWrongFalsely : Prop := gfPowersRow.holds Try.pinned (OpenSpec.ofChange gfPowersWrong)

/-- 'casematelaw02.GfOrders': WHATEVER THE INPUT: true; the input reads as it did. -/
def gfOrdersSpec : ChangeSpec := { name := "gfOrders", fn := fun _ => fun
  | [d1, d2] => { results := [.lit (.bool true)], args := [d1, d2] }
  | _ => none }
def gfOrdersRow : OpenClaim := { program := "ytbpjhlkcolgmjaa", sum := "cc4fbd1b8d8c14078ac7ccf9564480d2f7a42d855e8f061cfae4c70820f83054", func := "casemate/casematelaw02.GfOrders", spec := "gfOrders", apart := false }
def GfOrdersSaid : Prop := gfOrdersRow.holds Try.pinned (OpenSpec.ofChange gfOrdersSpec)

/-- ITS FALSE NEIGHBOUR: 'it returns false'. Refute it at one input. -/
def gfOrdersWrong : ChangeSpec := { name := "gfOrders", fn := fun _ => fun
  | [d1, d2] => { results := [.lit (.bool false)], args := [d1, d2] }
  | _ => none }
def GfOrdersWrongFalsely : Prop := gfOrdersRow.holds Try.pinned (OpenSpec.ofChange gfOrdersWrong)

/- THE SECOND FORM. 'bulk': how many values and letters a reading holds, each counted each time it is reached (what is shared counts as often as it is met; a slice's spare places count too). A statement '..UptoSaid' is the law's where the arguments, and the package variables that the reading takes, are together of bulk at most 1048576: NARROWER than '..Said'. Prove '..Said' where nothing that the law and all that it calls make is longer than what came in: it says more and counts as full. Else prove '..UptoSaid'. A law counts once. -/
mutual
def uptoBulk {H : Type} : DataW H → Nat
  | .lit (.string bytes) => bytes.length + 1
  | .lit _ => 1
  | .nil => 1
  | .ptr d => uptoBulk d + 1
  | .slice elems spare => uptoBulkAll elems + uptoBulkAll spare + 1
  | .agg parts => uptoBulkAll parts + 1
  | .iface _ d => uptoBulk d + 1
  | .map entries => uptoBulkEntries entries + 1
  | .held _ => 1
def uptoBulkAll {H : Type} : List (DataW H) → Nat
  | [] => 0
  | d :: r => uptoBulk d + uptoBulkAll r
def uptoBulkEntries {H : Type} : List (Lit × DataW H) → Nat
  | [] => 0
  | x :: r => uptoBulkEntry x + uptoBulkEntries r
def uptoBulkEntry {H : Type} : Lit × DataW H → Nat
  | (.string bytes, d) => bytes.length + uptoBulk d + 1
  | (_, d) => uptoBulk d + 1
 end
def uptoSmall : (H : Type) → List (DataW H) → Bool := fun _ ds => decide (uptoBulkAll ds ≤ 1048576)
def OpenSpec.upto (s : _root_.Go.ChangeSpec) : _root_.Go.OpenSpec := { _root_.Go.OpenSpec.ofChange s with cond := some uptoSmall }

/-- 'casematelaw02.GfLogs', WHERE WHAT IT READS IS OF BULK AT MOST 1048576: true; the input reads as it did. -/
def gfLogsUptoRow : OpenClaim := { program := "ytbpjhlkcolgmjaa", sum := "cc4fbd1b8d8c14078ac7ccf9564480d2f7a42d855e8f061cfae4c70820f83054", func := "casemate/casematelaw02.GfLogs", spec := "gfLogs", apart := false, narrowed := true }
def GfLogsUptoSaid : Prop := gfLogsUptoRow.holds Try.pinned (OpenSpec.upto gfLogsSpec)

/-- 'casematelaw02.GfLaws', WHERE WHAT IT READS IS OF BULK AT MOST 1048576: true; the input reads as it did. -/
def gfLawsUptoRow : OpenClaim := { program := "ytbpjhlkcolgmjaa", sum := "cc4fbd1b8d8c14078ac7ccf9564480d2f7a42d855e8f061cfae4c70820f83054", func := "casemate/casematelaw02.GfLaws", spec := "gfLaws", apart := false, narrowed := true }
def GfLawsUptoSaid : Prop := gfLawsUptoRow.holds Try.pinned (OpenSpec.upto gfLawsSpec)

/-- 'casematelaw02.GfInverts', WHERE WHAT IT READS IS OF BULK AT MOST 1048576: true; the input reads as it did. -/
def gfInvertsUptoRow : OpenClaim := { program := "ytbpjhlkcolgmjaa", sum := "cc4fbd1b8d8c14078ac7ccf9564480d2f7a42d855e8f061cfae4c70820f83054", func := "casemate/casematelaw02.GfInverts", spec := "gfInverts", apart := false, narrowed := true }
def GfInvertsUptoSaid : Prop := gfInvertsUptoRow.holds Try.pinned (OpenSpec.upto gfInvertsSpec)

/-- 'casematelaw02.GfLeast', WHERE WHAT IT READS IS OF BULK AT MOST 1048576: true; the input reads as it did. -/
def gfLeastUptoRow : OpenClaim := { program := "ytbpjhlkcolgmjaa", sum := "cc4fbd1b8d8c14078ac7ccf9564480d2f7a42d855e8f061cfae4c70820f83054", func := "casemate/casematelaw02.GfLeast", spec := "gfLeast", apart := false, narrowed := true }
def GfLeastUptoSaid : Prop := gfLeastUptoRow.holds Try.pinned (OpenSpec.upto gfLeastSpec)

/-- 'casematelaw02.GfReckons', WHERE WHAT IT READS IS OF BULK AT MOST 1048576: true; the input reads as it did. -/
def gfReckonsUptoRow : OpenClaim := { program := "ytbpjhlkcolgmjaa", sum := "cc4fbd1b8d8c14078ac7ccf9564480d2f7a42d855e8f061cfae4c70820f83054", func := "casemate/casematelaw02.GfReckons", spec := "gfReckons", apart := false, narrowed := true }
def GfReckonsUptoSaid : Prop := gfReckonsUptoRow.holds Try.pinned (OpenSpec.upto gfReckonsSpec)

/-- 'casematelaw02.GfPowers', WHERE WHAT IT READS IS OF BULK AT MOST 1048576: true; the input reads as it did. -/
def gfPowersUptoRow : OpenClaim := { program := "ytbpjhlkcolgmjaa", sum := "cc4fbd1b8d8c14078ac7ccf9564480d2f7a42d855e8f061cfae4c70820f83054", func := "casemate/casematelaw02.GfPowers", spec := "gfPowers", apart := false, narrowed := true }
def GfPowersUptoSaid : Prop := gfPowersUptoRow.holds Try.pinned (OpenSpec.upto gfPowersSpec)

/-- 'casematelaw02.GfOrders', WHERE WHAT IT READS IS OF BULK AT MOST 1048576: true; the input reads as it did. -/
def gfOrdersUptoRow : OpenClaim := { program := "ytbpjhlkcolgmjaa", sum := "cc4fbd1b8d8c14078ac7ccf9564480d2f7a42d855e8f061cfae4c70820f83054", func := "casemate/casematelaw02.GfOrders", spec := "gfOrders", apart := false, narrowed := true }
def GfOrdersUptoSaid : Prop := gfOrdersUptoRow.holds Try.pinned (OpenSpec.upto gfOrdersSpec)

end Rows
end Go.Proofs.Ytbpjhlkcolgmjaa

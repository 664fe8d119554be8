/-
  No cell of these rows narrows 'for every input' (looked for: loops, veiled, ifaces, maps, wideKeys, modest, calm, conditions, laid).
  DERIVED. THE GIVEN ROWS OF THIS SEAT. 7 by the template 'for every input the law returns true; each argument reads behind the call as it read before'; 0 by the template 'total and deterministic' (their statements: YtbaiildpabdlpaaTotals.lean).
  GIVEN WITH THE SEED: the statements are not yours to turn. If you find one false, say at which input.
  Laid BY PROGRAM, IN A SANDBOX (cutbox-rows.mjs): the forced cells as the released guide's own fill.sh prints them over the translation 93f3fd235664ccda… (all of the seat's roots in one cut). By AI agents, Wed Nov 11 2026. No macro, syntax, notation, axiom, sorry.
-/
import Derived.Test.YtbaiildpabdlpaaChecked
import GoSem.Claim
import GoSem.ClaimJoined
import GoSem.ClaimMapViews
import Derived.JoinedTies
import Derived.KernelRfl
namespace Go.Proofs.Ytbaiildpabdlpaa
/- THE CELL 'sum', in the pinned program and in every row, IS THE sha256 OF THE DUMP (.gsa) THAT YtbaiildpabdlpaaProg.lean LOADS. Nothing in Lean hashes anything: it is a label: what it is worth is what the hold of that sum in a sandbox is worth. -/
noncomputable def Try.pinned : Pinned := { name := "ytbaiildpabdlpaa", sum := "93f3fd235664ccdab26dae1cac61538fbe31d304b7c39e53fd22bd285f4ada1d", checked := Try.checked }
namespace Rows
def none {H : Type} : Left H := { results := [], args := [] }

/-- 'casematelaw05.BchEncodes': WHATEVER THE INPUT: true; the input reads as it did. -/
def bchEncodesSpec : ChangeSpec := { name := "bchEncodes", fn := fun _ => fun
  | [d1, d2] => { results := [.lit (.bool true)], args := [d1, d2] }
  | _ => none }
def bchEncodesRow : OpenClaim := { program := "ytbaiildpabdlpaa", sum := "93f3fd235664ccdab26dae1cac61538fbe31d304b7c39e53fd22bd285f4ada1d", func := "casemate/casematelaw05.BchEncodes", spec := "bchEncodes", unfollowed := true, recurses := true, apart := false }
def BchEncodesSaid : Prop := bchEncodesRow.holds Try.pinned (OpenSpec.ofChange bchEncodesSpec)

/-- ITS FALSE NEIGHBOUR: 'it returns false'. Refute it at one input. -/
def bchEncodesWrong : ChangeSpec := { name := "bchEncodes", fn := fun _ => fun
  | [d1, d2] => { results := [.lit (.bool false)], args := [d1, d2] }
  | _ => none }
def BchEncodesWrongFalsely : Prop := bchEncodesRow.holds Try.pinned (OpenSpec.ofChange bchEncodesWrong)

/-- 'casematelaw05.BchSound': WHATEVER THE INPUT: true; the input reads as it did. -/
def bchSoundSpec : ChangeSpec := { name := "bchSound", fn := fun _ => fun
  | [d1, d2, d3] => { results := [.lit (.bool true)], args := [d1, d2, d3] }
  | _ => none }
def bchSoundRow : OpenClaim := { program := "ytbaiildpabdlpaa", sum := "93f3fd235664ccdab26dae1cac61538fbe31d304b7c39e53fd22bd285f4ada1d", func := "casemate/casematelaw05.BchSound", spec := "bchSound", unfollowed := true, recurses := true, apart := false }
def BchSoundSaid : Prop := bchSoundRow.holds Try.pinned (OpenSpec.ofChange bchSoundSpec)

/-- ITS FALSE NEIGHBOUR: 'it returns false'. Refute it at one input. -/
def bchSoundWrong : ChangeSpec := { name := "bchSound", fn := fun _ => fun
  | [d1, d2, d3] => { results := [.lit (.bool false)], args := [d1, d2, d3] }
  | _ => none }
def BchSoundWrongFalsely : Prop := bchSoundRow.holds Try.pinned (OpenSpec.ofChange bchSoundWrong)

/-- 'casematelaw05.BchApart': WHATEVER THE INPUT: true; the input reads as it did. -/
def bchApartSpec : ChangeSpec := { name := "bchApart", fn := fun _ => fun
  | [d1, d2, d3] => { results := [.lit (.bool true)], args := [d1, d2, d3] }
  | _ => none }
def bchApartRow : OpenClaim := { program := "ytbaiildpabdlpaa", sum := "93f3fd235664ccdab26dae1cac61538fbe31d304b7c39e53fd22bd285f4ada1d", func := "casemate/casematelaw05.BchApart", spec := "bchApart", unfollowed := true, recurses := true, apart := false }
def BchApartSaid : Prop := bchApartRow.holds Try.pinned (OpenSpec.ofChange bchApartSpec)

/-- ITS FALSE NEIGHBOUR: 'it returns false'. Refute it at one input. -/
def bchApartWrong : ChangeSpec := { name := "bchApart", fn := fun _ => fun
  | [d1, d2, d3] => { results := [.lit (.bool false)], args := [d1, d2, d3] }
  | _ => none }
def BchApartWrongFalsely : Prop := bchApartRow.holds Try.pinned (OpenSpec.ofChange bchApartWrong)

/-- 'casematelaw05.BchSums': WHATEVER THE INPUT: true; the input reads as it did. -/
def bchSumsSpec : ChangeSpec := { name := "bchSums", fn := fun _ => fun
  | [d1, d2, d3] => { results := [.lit (.bool true)], args := [d1, d2, d3] }
  | _ => none }
def bchSumsRow : OpenClaim := { program := "ytbaiildpabdlpaa", sum := "93f3fd235664ccdab26dae1cac61538fbe31d304b7c39e53fd22bd285f4ada1d", func := "casemate/casematelaw05.BchSums", spec := "bchSums", unfollowed := true, recurses := true, apart := false }
def BchSumsSaid : Prop := bchSumsRow.holds Try.pinned (OpenSpec.ofChange bchSumsSpec)

/-- ITS FALSE NEIGHBOUR: 'it returns false'. Refute it at one input. -/
def bchSumsWrong : ChangeSpec := { name := "bchSums", fn := fun _ => fun
  | [d1, d2, d3] => { results := [.lit (.bool false)], args := [d1, d2, d3] }
  | _ => none }
def BchSumsWrongFalsely : Prop := bchSumsRow.holds Try.pinned (OpenSpec.ofChange bchSumsWrong)

/-- 'casematelaw05.BchAgain': WHATEVER THE INPUT: true; the input reads as it did. -/
def bchAgainSpec : ChangeSpec := { name := "bchAgain", fn := fun _ => fun
  | [d1, d2, d3] => { results := [.lit (.bool true)], args := [d1, d2, d3] }
  | _ => none }
def bchAgainRow : OpenClaim := { program := "ytbaiildpabdlpaa", sum := "93f3fd235664ccdab26dae1cac61538fbe31d304b7c39e53fd22bd285f4ada1d", func := "casemate/casematelaw05.BchAgain", spec := "bchAgain", unfollowed := true, recurses := true, apart := false }
def BchAgainSaid : Prop := bchAgainRow.holds Try.pinned (OpenSpec.ofChange bchAgainSpec)

/-- ITS FALSE NEIGHBOUR: 'it returns false'. Refute it at one input. -/
def bchAgainWrong : ChangeSpec := { name := "bchAgain", fn := fun _ => fun
  | [d1, d2, d3] => { results := [.lit (.bool false)], args := [d1, d2, d3] }
  | _ => none }
def BchAgainWrongFalsely : Prop := bchAgainRow.holds Try.pinned (OpenSpec.ofChange bchAgainWrong)

/-- 'casematelaw05.BchCorrects': WHATEVER THE INPUT: true; the input reads as it did. -/
def bchCorrectsSpec : ChangeSpec := { name := "bchCorrects", fn := fun _ => fun
  | [d1, d2, d3] => { results := [.lit (.bool true)], args := [d1, d2, d3] }
  | _ => none }
def bchCorrectsRow : OpenClaim := { program := "ytbaiildpabdlpaa", sum := "93f3fd235664ccdab26dae1cac61538fbe31d304b7c39e53fd22bd285f4ada1d", func := "casemate/casematelaw05.BchCorrects", spec := "bchCorrects", unfollowed := true, recurses := true, apart := false }
def BchCorrectsSaid : Prop := bchCorrectsRow.holds Try.pinned (OpenSpec.ofChange bchCorrectsSpec)

/-- ITS FALSE NEIGHBOUR: 'it returns false'. Refute it at one input. -/
def bchCorrectsWrong : ChangeSpec := { name := "bchCorrects", fn := fun _ => fun
  | [d1, d2, d3] => { results := [.lit (.bool false)], args := [d1, d2, d3] }
  | _ => none }
def BchCorrectsWrongFalsely : Prop := bchCorrectsRow.holds Try.pinned (OpenSpec.ofChange bchCorrectsWrong)

/-- 'casematelaw05.BchLinear': WHATEVER THE INPUT: true; the input reads as it did. -/
def bchLinearSpec : ChangeSpec := { name := "bchLinear", fn := fun _ => fun
  | [d1, d2, d3, d4] => { results := [.lit (.bool true)], args := [d1, d2, d3, d4] }
  | _ => none }
def bchLinearRow : OpenClaim := { program := "ytbaiildpabdlpaa", sum := "93f3fd235664ccdab26dae1cac61538fbe31d304b7c39e53fd22bd285f4ada1d", func := "casemate/casematelaw05.BchLinear", spec := "bchLinear", unfollowed := true, recurses := true, apart := false }
def BchLinearSaid : Prop := bchLinearRow.holds Try.pinned (OpenSpec.ofChange bchLinearSpec)

/-- ITS FALSE NEIGHBOUR: 'it returns false'. Refute it at one input. -/
def bchLinearWrong : ChangeSpec := { name := "bchLinear", fn := fun _ => fun
  | [d1, d2, d3, d4] => { results := [.lit (.bool false)], args := [d1, d2, d3, d4] }
  | _ => none }
def BchLinearWrongFalsely : Prop := bchLinearRow.holds Try.pinned (OpenSpec.ofChange bchLinearWrong)

/- THE SECOND FORM. 'bulk': how many values and letters a reading holds, each counted each time it is reached (what is shared counts as often as it is met; a slice's spare places count too). A statement '..UptoSaid' is the law's where the arguments, and the package variables that the reading takes, are together of bulk at most 1048576: NARROWER than '..Said'. Prove '..Said' where nothing that the law and all that it calls make is longer than what came in: it says more and counts as full. Else prove '..UptoSaid'. A law counts once. -/
mutual
def uptoBulk {H : Type} : DataW H → Nat
  | .lit (.string bytes) => bytes.length + 1
  | .lit _ => 1
  | .nil => 1
  | .ptr d => uptoBulk d + 1
  | .slice elems spare => uptoBulkAll elems + uptoBulkAll spare + 1
  | .agg parts => uptoBulkAll parts + 1
  | .iface _ d => uptoBulk d + 1
  | .map entries => uptoBulkEntries entries + 1
  | .held _ => 1
def uptoBulkAll {H : Type} : List (DataW H) → Nat
  | [] => 0
  | d :: r => uptoBulk d + uptoBulkAll r
def uptoBulkEntries {H : Type} : List (Lit × DataW H) → Nat
  | [] => 0
  | x :: r => uptoBulkEntry x + uptoBulkEntries r
def uptoBulkEntry {H : Type} : Lit × DataW H → Nat
  | (.string bytes, d) => bytes.length + uptoBulk d + 1
  | (_, d) => uptoBulk d + 1
 end
def uptoSmall : (H : Type) → List (DataW H) → Bool := fun _ ds => decide (uptoBulkAll ds ≤ 1048576)
def OpenSpec.upto (s : _root_.Go.ChangeSpec) : _root_.Go.OpenSpec := { _root_.Go.OpenSpec.ofChange s with cond := some uptoSmall }

/-- 'casematelaw05.BchEncodes', WHERE WHAT IT READS IS OF BULK AT MOST 1048576: true; the input reads as it did. -/
def bchEncodesUptoRow : OpenClaim := { program := "ytbaiildpabdlpaa", sum := "93f3fd235664ccdab26dae1cac61538fbe31d304b7c39e53fd22bd285f4ada1d", func := "casemate/casematelaw05.BchEncodes", spec := "bchEncodes", unfollowed := true, recurses := true, apart := false, narrowed := true }
def BchEncodesUptoSaid : Prop := bchEncodesUptoRow.holds Try.pinned (OpenSpec.upto bchEncodesSpec)

/-- 'casematelaw05.BchSound', WHERE WHAT IT READS IS OF BULK AT MOST 1048576: true; the input reads as it did. -/
def bchSoundUptoRow : OpenClaim := { program := "ytbaiildpabdlpaa", sum := "93f3fd235664ccdab26dae1cac61538fbe31d304b7c39e53fd22bd285f4ada1d", func := "casemate/casematelaw05.BchSound", spec := "bchSound", unfollowed := true, recurses := true, apart := false, narrowed := true }
def BchSoundUptoSaid : Prop := bchSoundUptoRow.holds Try.pinned (OpenSpec.upto bchSoundSpec)

/-- 'casematelaw05.BchApart', WHERE WHAT IT READS IS OF BULK AT MOST 1048576: true; the input reads as it did. -/
def bchApartUptoRow : OpenClaim := { program := "ytbaiildpabdlpaa", sum := "93f3fd235664ccdab26dae1cac61538fbe31d304b7c39e53fd22bd285f4ada1d", func := "casemate/casematelaw05.BchApart", spec := "bchApart", unfollowed := true, recurses := true, apart := false, narrowed := true }
def BchApartUptoSaid : Prop := bchApartUptoRow.holds Try.pinned (OpenSpec.upto bchApartSpec)

/-- 'casematelaw05.BchSums', WHERE WHAT IT READS IS OF BULK AT MOST 1048576: true; the input reads as it did. -/
def bchSumsUptoRow : OpenClaim := { program := "ytbaiildpabdlpaa", sum := "93f3fd235664ccdab26dae1cac61538fbe31d304b7c39e53fd22bd285f4ada1d", func := "casemate/casematelaw05.BchSums", spec := "bchSums", unfollowed := true, recurses := true, apart := false, narrowed := true }
def BchSumsUptoSaid : Prop := bchSumsUptoRow.holds Try.pinned (OpenSpec.upto bchSumsSpec)

/-- 'casematelaw05.BchAgain', WHERE WHAT IT READS IS OF BULK AT MOST 1048576: true; the input reads as it did. -/
def bchAgainUptoRow : OpenClaim := { program := "ytbaiildpabdlpaa", sum := "93f3fd235664ccdab26dae1cac61538fbe31d304b7c39e53fd22bd285f4ada1d", func := "casemate/casematelaw05.BchAgain", spec := "bchAgain", unfollowed := true, recurses := true, apart := false, narrowed := true }
def BchAgainUptoSaid : Prop := bchAgainUptoRow.holds Try.pinned (OpenSpec.upto bchAgainSpec)

/-- 'casematelaw05.BchCorrects', WHERE WHAT IT READS IS OF BULK AT MOST 1048576: true; the input reads as it did. -/
def bchCorrectsUptoRow : OpenClaim := { program := "ytbaiildpabdlpaa", sum := "93f3fd235664ccdab26dae1cac61538fbe31d304b7c39e53fd22bd285f4ada1d", func := "casemate/casematelaw05.BchCorrects", spec := "bchCorrects", unfollowed := true, recurses := true, apart := false, narrowed := true }
def BchCorrectsUptoSaid : Prop := bchCorrectsUptoRow.holds Try.pinned (OpenSpec.upto bchCorrectsSpec)

/-- 'casematelaw05.BchLinear', WHERE WHAT IT READS IS OF BULK AT MOST 1048576: true; the input reads as it did. -/
def bchLinearUptoRow : OpenClaim := { program := "ytbaiildpabdlpaa", sum := "93f3fd235664ccdab26dae1cac61538fbe31d304b7c39e53fd22bd285f4ada1d", func := "casemate/casematelaw05.BchLinear", spec := "bchLinear", unfollowed := true, recurses := true, apart := false, narrowed := true }
def BchLinearUptoSaid : Prop := bchLinearUptoRow.holds Try.pinned (OpenSpec.upto bchLinearSpec)

end Rows
end Go.Proofs.Ytbaiildpabdlpaa

/-
  No cell of these rows narrows 'for every input' (looked for: loops, veiled, ifaces, maps, wideKeys, modest, calm, conditions, laid).
  DERIVED. THE GIVEN ROWS OF THIS SEAT. 5 by the template 'for every input the law returns true; each argument reads behind the call as it read before'; 0 by the template 'total and deterministic' (their statements: YtlaadaigffmibaaTotals.lean).
  GIVEN WITH THE SEED: the statements are not yours to turn. If you find one false, say at which input.
  Laid BY PROGRAM, IN A SANDBOX (cutbox-rows.mjs): the forced cells as the released guide's own fill.sh prints them over the translation f63b9e98d95c7368… (all of the seat's roots in one cut). By AI agents, Wed Nov 11 2026. No macro, syntax, notation, axiom, sorry.
-/
import Derived.Test.YtlaadaigffmibaaChecked
import GoSem.Claim
import GoSem.ClaimJoined
import GoSem.ClaimMapViews
import Derived.JoinedTies
import Derived.KernelRfl
namespace Go.Proofs.Ytlaadaigffmibaa
/- THE CELL 'sum', in the pinned program and in every row, IS THE sha256 OF THE DUMP (.gsa) THAT YtlaadaigffmibaaProg.lean LOADS. Nothing in Lean hashes anything: it is a label: what it is worth is what the hold of that sum in a sandbox is worth. -/
noncomputable def Try.pinned : Pinned := { name := "ytlaadaigffmibaa", sum := "f63b9e98d95c7368ee9653e7ea69c22bbba40f03e9a24c1fd9ce064bc0a4a0de", checked := Try.checked }
namespace Rows
def none {H : Type} : Left H := { results := [], args := [] }

/-- 'casematelaw09.HeadTells': WHATEVER THE INPUT: true; the input reads as it did. -/
def headTellsSpec : ChangeSpec := { name := "headTells", fn := fun _ => fun
  | [d1, d2, d3] => { results := [.lit (.bool true)], args := [d1, d2, d3] }
  | _ => none }
def headTellsRow : OpenClaim := { program := "ytlaadaigffmibaa", sum := "f63b9e98d95c7368ee9653e7ea69c22bbba40f03e9a24c1fd9ce064bc0a4a0de", func := "casemate/casematelaw09.HeadTells", spec := "headTells", unfollowed := true, recurses := true, apart := false }
def HeadTellsSaid : Prop := headTellsRow.holds Try.pinned (OpenSpec.ofChange headTellsSpec)

/-- ITS FALSE NEIGHBOUR: 'it returns false'. Refute it at one input. -/
def headTellsWrong : ChangeSpec := { name := "headTells", fn := fun _ => fun
  | [d1, d2, d3] => { results := [.lit (.bool false)], args := [d1, d2, d3] }
  | _ => none }
def HeadTellsWrongFalsely : Prop := headTellsRow.holds Try.pinned (OpenSpec.ofChange headTellsWrong)

/-- 'casematelaw09.HeadParses': WHATEVER THE INPUT: true; the input reads as it did. -/
def headParsesSpec : ChangeSpec := { name := "headParses", fn := fun _ => fun
  | [d1, d2] => { results := [.lit (.bool true)], args := [d1, d2] }
  | _ => none }
def headParsesRow : OpenClaim := { program := "ytlaadaigffmibaa", sum := "f63b9e98d95c7368ee9653e7ea69c22bbba40f03e9a24c1fd9ce064bc0a4a0de", func := "casemate/casematelaw09.HeadParses", spec := "headParses", unfollowed := true, recurses := true, apart := false }
def HeadParsesSaid : Prop := headParsesRow.holds Try.pinned (OpenSpec.ofChange headParsesSpec)

/-- ITS FALSE NEIGHBOUR: 'it returns false'. Refute it at one input. -/
def headParsesWrong : ChangeSpec := { name := "headParses", fn := fun _ => fun
  | [d1, d2] => { results := [.lit (.bool false)], args := [d1, d2] }
  | _ => none }
def HeadParsesWrongFalsely : Prop := headParsesRow.holds Try.pinned (OpenSpec.ofChange headParsesWrong)

/-- 'casematelaw09.HeadBack': WHATEVER THE INPUT: true; the input reads as it did. -/
def headBackSpec : ChangeSpec := { name := "headBack", fn := fun _ => fun
  | [d1, d2, d3] => { results := [.lit (.bool true)], args := [d1, d2, d3] }
  | _ => none }
def headBackRow : OpenClaim := { program := "ytlaadaigffmibaa", sum := "f63b9e98d95c7368ee9653e7ea69c22bbba40f03e9a24c1fd9ce064bc0a4a0de", func := "casemate/casematelaw09.HeadBack", spec := "headBack", unfollowed := true, recurses := true, apart := false }
def HeadBackSaid : Prop := headBackRow.holds Try.pinned (OpenSpec.ofChange headBackSpec)

/-- ITS FALSE NEIGHBOUR: 'it returns false'. Refute it at one input. -/
def headBackWrong : ChangeSpec := { name := "headBack", fn := fun _ => fun
  | [d1, d2, d3] => { results := [.lit (.bool false)], args := [d1, d2, d3] }
  | _ => none }
def HeadBackWrongFalsely : Prop := headBackRow.holds Try.pinned (OpenSpec.ofChange headBackWrong)

/-- 'casematelaw09.HeadAgain': WHATEVER THE INPUT: true; the input reads as it did. -/
def headAgainSpec : ChangeSpec := { name := "headAgain", fn := fun _ => fun
  | [d1, d2] => { results := [.lit (.bool true)], args := [d1, d2] }
  | _ => none }
def headAgainRow : OpenClaim := { program := "ytlaadaigffmibaa", sum := "f63b9e98d95c7368ee9653e7ea69c22bbba40f03e9a24c1fd9ce064bc0a4a0de", func := "casemate/casematelaw09.HeadAgain", spec := "headAgain", unfollowed := true, recurses := true, apart := false }
def HeadAgainSaid : Prop := headAgainRow.holds Try.pinned (OpenSpec.ofChange headAgainSpec)

/-- ITS FALSE NEIGHBOUR: 'it returns false'. Refute it at one input. -/
def headAgainWrong : ChangeSpec := { name := "headAgain", fn := fun _ => fun
  | [d1, d2] => { results := [.lit (.bool false)], args := [d1, d2] }
  | _ => none }
def HeadAgainWrongFalsely : Prop := headAgainRow.holds Try.pinned (OpenSpec.ofChange headAgainWrong)

/-- 'casematelaw09.HeadPages': WHATEVER THE INPUT: true; the input reads as it did. -/
def headPagesSpec : ChangeSpec := { name := "headPages", fn := fun _ => fun
  | [d1, d2, d3] => { results := [.lit (.bool true)], args := [d1, d2, d3] }
  | _ => none }
def headPagesRow : OpenClaim := { program := "ytlaadaigffmibaa", sum := "f63b9e98d95c7368ee9653e7ea69c22bbba40f03e9a24c1fd9ce064bc0a4a0de", func := "casemate/casematelaw09.HeadPages", spec := "headPages", unfollowed := true, recurses := true, apart := false }
def HeadPagesSaid : Prop := headPagesRow.holds Try.pinned (OpenSpec.ofChange headPagesSpec)

/-- ITS FALSE NEIGHBOUR: 'it returns false'. Refute it at one input. -/
def headPagesWrong : ChangeSpec := { name := "headPages", fn := fun _ => fun
  | [d1, d2, d3] => { results := [.lit (.bool false)], args := [d1, d2, d3] }
  | _ => none }
def HeadPagesWrongFalsely : Prop := headPagesRow.holds Try.pinned (OpenSpec.ofChange headPagesWrong)

/- THE SECOND FORM. 'bulk': how many values and letters a reading holds, each counted each time it is reached (what is shared counts as often as it is met; a slice's spare places count too). A statement '..UptoSaid' is the law's where the arguments, and the package variables that the reading takes, are together of bulk at most 1048576: NARROWER than '..Said'. Prove '..Said' where nothing that the law and all that it calls make is longer than what came in: it says more and counts as full. Else prove '..UptoSaid'. A law counts once. -/
mutual
def uptoBulk {H : Type} : DataW H → Nat
  | .lit (.string bytes) => bytes.length + 1
  | .lit _ => 1
  | .nil => 1
  | .ptr d => uptoBulk d + 1
  | .slice elems spare => uptoBulkAll elems + uptoBulkAll spare + 1
  | .agg parts => uptoBulkAll parts + 1
  | .iface _ d => uptoBulk d + 1
  | .map entries => uptoBulkEntries entries + 1
  | .held _ => 1
def uptoBulkAll {H : Type} : List (DataW H) → Nat
  | [] => 0
  | d :: r => uptoBulk d + uptoBulkAll r
def uptoBulkEntries {H : Type} : List (Lit × DataW H) → Nat
  | [] => 0
  | x :: r => uptoBulkEntry x + uptoBulkEntries r
def uptoBulkEntry {H : Type} : Lit × DataW H → Nat
  | (.string bytes, d) => bytes.length + uptoBulk d + 1
  | (_, d) => uptoBulk d + 1
 end
def uptoSmall : (H : Type) → List (DataW H) → Bool := fun _ ds => decide (uptoBulkAll ds ≤ 1048576)
def OpenSpec.upto (s : _root_.Go.ChangeSpec) : _root_.Go.OpenSpec := { _root_.Go.OpenSpec.ofChange s with cond := some uptoSmall }

/-- 'casematelaw09.HeadTells', WHERE WHAT IT READS IS OF BULK AT MOST 1048576: true; the input reads as it did. -/
def headTellsUptoRow : OpenClaim := { program := "ytlaadaigffmibaa", sum := "f63b9e98d95c7368ee9653e7ea69c22bbba40f03e9a24c1fd9ce064bc0a4a0de", func := "casemate/casematelaw09.HeadTells", spec := "headTells", unfollowed := true, recurses := true, apart := false, narrowed := true }
def HeadTellsUptoSaid : Prop := headTellsUptoRow.holds Try.pinned (OpenSpec.upto headTellsSpec)

/-- 'casematelaw09.HeadParses', WHERE WHAT IT READS IS OF BULK AT MOST 1048576: true; the input reads as it did. -/
def headParsesUptoRow : OpenClaim := { program := "ytlaadaigffmibaa", sum := "f63b9e98d95c7368ee9653e7ea69c22bbba40f03e9a24c1fd9ce064bc0a4a0de", func := "casemate/casematelaw09.HeadParses", spec := "headParses", unfollowed := true, recurses := true, apart := false, narrowed := true }
def HeadParsesUptoSaid : Prop := headParsesUptoRow.holds Try.pinned (OpenSpec.upto headParsesSpec)

/-- 'casematelaw09.HeadBack', WHERE WHAT IT READS IS OF BULK AT MOST 1048576: true; the input reads as it did. -/
def headBackUptoRow : OpenClaim := { program := "ytlaadaigffmibaa", sum := "f63b9e98d95c7368ee9653e7ea69c22bbba40f03e9a24c1fd9ce064bc0a4a0de", func := "casemate/casematelaw09.HeadBack", spec := "headBack", unfollowed := true, recurses := true, apart := false, narrowed := true }
def HeadBackUptoSaid : Prop := headBackUptoRow.holds Try.pinned (OpenSpec.upto headBackSpec)

/-- 'casematelaw09.HeadAgain', WHERE WHAT IT READS IS OF BULK AT MOST 1048576: true; the input reads as it did. -/
def headAgainUptoRow : OpenClaim := { program := "ytlaadaigffmibaa", sum := "f63b9e98d95c7368ee9653e7ea69c22bbba40f03e9a24c1fd9ce064bc0a4a0de", func := "casemate/casematelaw09.HeadAgain", spec := "headAgain", unfollowed := true, recurses := true, apart := false, narrowed := true }
def HeadAgainUptoSaid : Prop := headAgainUptoRow.holds Try.pinned (OpenSpec.upto headAgainSpec)

/-- 'casematelaw09.HeadPages', WHERE WHAT IT READS IS OF BULK AT MOST 1048576: true; the input reads as it did. -/
def headPagesUptoRow : OpenClaim := { program := "ytlaadaigffmibaa", sum := "f63b9e98d95c7368ee9653e7ea69c22bbba40f03e9a24c1fd9ce064bc0a4a0de", func := "casemate/casematelaw09.HeadPages", spec := "headPages", unfollowed := true, recurses := true, apart := false, narrowed := true }
def HeadPagesUptoSaid : Prop := headPagesUptoRow.holds Try.pinned (OpenSpec.upto headPagesSpec)

end Rows
end Go.Proofs.Ytlaadaigffmibaa

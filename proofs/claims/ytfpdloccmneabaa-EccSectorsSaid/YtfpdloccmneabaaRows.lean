/-
  No cell of these rows narrows 'for every input' (looked for: loops, veiled, ifaces, maps, wideKeys, modest, calm, conditions, laid).
  DERIVED. THE GIVEN ROWS OF THIS SEAT. 6 by the template 'for every input the law returns true; each argument reads behind the call as it read before'; 0 by the template 'total and deterministic' (their statements: YtfpdloccmneabaaTotals.lean).
  GIVEN WITH THE SEED: the statements are not yours to turn. If you find one false, say at which input.
  Laid BY PROGRAM, IN A SANDBOX (cutbox-rows.mjs): the forced cells as the released guide's own fill.sh prints them over the translation a5bf2b5dc9ee0678… (all of the seat's roots in one cut). By AI agents, Wed Nov 11 2026. No macro, syntax, notation, axiom, sorry.
-/
import Derived.Test.YtfpdloccmneabaaChecked
import GoSem.Claim
import GoSem.ClaimJoined
import GoSem.ClaimMapViews
import Derived.JoinedTies
import Derived.KernelRfl
namespace Go.Proofs.Ytfpdloccmneabaa
/- THE CELL 'sum', in the pinned program and in every row, IS THE sha256 OF THE DUMP (.gsa) THAT YtfpdloccmneabaaProg.lean LOADS. Nothing in Lean hashes anything: it is a label: what it is worth is what the hold of that sum in a sandbox is worth. -/
noncomputable def Try.pinned : Pinned := { name := "ytfpdloccmneabaa", sum := "a5bf2b5dc9ee0678de00c2ca51facb9be6ce4e9c9d4cf1ef53041f26a0d7e2ac", checked := Try.checked }
namespace Rows
def none {H : Type} : Left H := { results := [], args := [] }

/-- 'casematelaw06.EccBlank': WHATEVER THE INPUT: true; the input reads as it did. -/
def eccBlankSpec : ChangeSpec := { name := "eccBlank", fn := fun _ => fun
  | [d1, d2, d3] => { results := [.lit (.bool true)], args := [d1, d2, d3] }
  | _ => none }
def eccBlankRow : OpenClaim := { program := "ytfpdloccmneabaa", sum := "a5bf2b5dc9ee0678de00c2ca51facb9be6ce4e9c9d4cf1ef53041f26a0d7e2ac", func := "casemate/casematelaw06.EccBlank", spec := "eccBlank", unfollowed := true, recurses := true, apart := false }
def EccBlankSaid : Prop := eccBlankRow.holds Try.pinned (OpenSpec.ofChange eccBlankSpec)

/-- ITS FALSE NEIGHBOUR: 'it returns false'. Refute it at one input. -/
def eccBlankWrong : ChangeSpec := { name := "eccBlank", fn := fun _ => fun
  | [d1, d2, d3] => { results := [.lit (.bool false)], args := [d1, d2, d3] }
  | _ => none }
def EccBlankWrongFalsely : Prop := eccBlankRow.holds Try.pinned (OpenSpec.ofChange eccBlankWrong)

/-- 'casematelaw06.EccSectors': WHATEVER THE INPUT: true; the input reads as it did. -/
def eccSectorsSpec : ChangeSpec := { name := "eccSectors", fn := fun _ => fun
  | [d1, d2, d3, d4] => { results := [.lit (.bool true)], args := [d1, d2, d3, d4] }
  | _ => none }
def eccSectorsRow : OpenClaim := { program := "ytfpdloccmneabaa", sum := "a5bf2b5dc9ee0678de00c2ca51facb9be6ce4e9c9d4cf1ef53041f26a0d7e2ac", func := "casemate/casematelaw06.EccSectors", spec := "eccSectors", unfollowed := true, recurses := true, apart := false }
def EccSectorsSaid : Prop := eccSectorsRow.holds Try.pinned (OpenSpec.ofChange eccSectorsSpec)

/-- ITS FALSE NEIGHBOUR: 'it returns false'. Refute it at one input. -/
def eccSectorsWrong : ChangeSpec := { name := "eccSectors", fn := fun _ => fun
  | [d1, d2, d3, d4] => { results := [.lit (.bool false)], args := [d1, d2, d3, d4] }
  | _ => none }
def EccSectorsWrongFalsely : Prop := eccSectorsRow.holds Try.pinned (OpenSpec.ofChange eccSectorsWrong)

/-- 'casematelaw06.EccPacks': WHATEVER THE INPUT: true; the input reads as it did. -/
def eccPacksSpec : ChangeSpec := { name := "eccPacks", fn := fun _ => fun
  | [d1, d2] => { results := [.lit (.bool true)], args := [d1, d2] }
  | _ => none }
def eccPacksRow : OpenClaim := { program := "ytfpdloccmneabaa", sum := "a5bf2b5dc9ee0678de00c2ca51facb9be6ce4e9c9d4cf1ef53041f26a0d7e2ac", func := "casemate/casematelaw06.EccPacks", spec := "eccPacks", unfollowed := true, recurses := true, apart := false }
def EccPacksSaid : Prop := eccPacksRow.holds Try.pinned (OpenSpec.ofChange eccPacksSpec)

/-- ITS FALSE NEIGHBOUR: 'it returns false'. Refute it at one input. -/
def eccPacksWrong : ChangeSpec := { name := "eccPacks", fn := fun _ => fun
  | [d1, d2] => { results := [.lit (.bool false)], args := [d1, d2] }
  | _ => none }
def EccPacksWrongFalsely : Prop := eccPacksRow.holds Try.pinned (OpenSpec.ofChange eccPacksWrong)

/-- 'casematelaw06.EccUnpacks': WHATEVER THE INPUT: true; the input reads as it did. -/
def eccUnpacksSpec : ChangeSpec := { name := "eccUnpacks", fn := fun _ => fun
  | [d1, d2] => { results := [.lit (.bool true)], args := [d1, d2] }
  | _ => none }
def eccUnpacksRow : OpenClaim := { program := "ytfpdloccmneabaa", sum := "a5bf2b5dc9ee0678de00c2ca51facb9be6ce4e9c9d4cf1ef53041f26a0d7e2ac", func := "casemate/casematelaw06.EccUnpacks", spec := "eccUnpacks", unfollowed := true, recurses := true, apart := false }
def EccUnpacksSaid : Prop := eccUnpacksRow.holds Try.pinned (OpenSpec.ofChange eccUnpacksSpec)

/-- ITS FALSE NEIGHBOUR: 'it returns false'. Refute it at one input. -/
def eccUnpacksWrong : ChangeSpec := { name := "eccUnpacks", fn := fun _ => fun
  | [d1, d2] => { results := [.lit (.bool false)], args := [d1, d2] }
  | _ => none }
def EccUnpacksWrongFalsely : Prop := eccUnpacksRow.holds Try.pinned (OpenSpec.ofChange eccUnpacksWrong)

/-- 'casematelaw06.EccCorrects': WHATEVER THE INPUT: true; the input reads as it did. -/
def eccCorrectsSpec : ChangeSpec := { name := "eccCorrects", fn := fun _ => fun
  | [d1, d2, d3] => { results := [.lit (.bool true)], args := [d1, d2, d3] }
  | _ => none }
def eccCorrectsRow : OpenClaim := { program := "ytfpdloccmneabaa", sum := "a5bf2b5dc9ee0678de00c2ca51facb9be6ce4e9c9d4cf1ef53041f26a0d7e2ac", func := "casemate/casematelaw06.EccCorrects", spec := "eccCorrects", unfollowed := true, recurses := true, apart := false }
def EccCorrectsSaid : Prop := eccCorrectsRow.holds Try.pinned (OpenSpec.ofChange eccCorrectsSpec)

/-- ITS FALSE NEIGHBOUR: 'it returns false'. Refute it at one input. -/
def eccCorrectsWrong : ChangeSpec := { name := "eccCorrects", fn := fun _ => fun
  | [d1, d2, d3] => { results := [.lit (.bool false)], args := [d1, d2, d3] }
  | _ => none }
def EccCorrectsWrongFalsely : Prop := eccCorrectsRow.holds Try.pinned (OpenSpec.ofChange eccCorrectsWrong)

/-- 'casematelaw06.EccTorn': WHATEVER THE INPUT: true; the input reads as it did. -/
def eccTornSpec : ChangeSpec := { name := "eccTorn", fn := fun _ => fun
  | [d1, d2, d3] => { results := [.lit (.bool true)], args := [d1, d2, d3] }
  | _ => none }
def eccTornRow : OpenClaim := { program := "ytfpdloccmneabaa", sum := "a5bf2b5dc9ee0678de00c2ca51facb9be6ce4e9c9d4cf1ef53041f26a0d7e2ac", func := "casemate/casematelaw06.EccTorn", spec := "eccTorn", unfollowed := true, recurses := true, apart := false }
def EccTornSaid : Prop := eccTornRow.holds Try.pinned (OpenSpec.ofChange eccTornSpec)

/-- ITS FALSE NEIGHBOUR: 'it returns false'. Refute it at one input. -/
def eccTornWrong : ChangeSpec := { name := "eccTorn", fn := fun _ => fun
  | [d1, d2, d3] => { results := [.lit (.bool false)], args := [d1, d2, d3] }
  | _ => none }
def EccTornWrongFalsely : Prop := eccTornRow.holds Try.pinned (OpenSpec.ofChange eccTornWrong)

/- THE SECOND FORM. 'bulk': how many values and letters a reading holds, each counted each time it is reached (what is shared counts as often as it is met; a slice's spare places count too). A statement '..UptoSaid' is the law's where the arguments, and the package variables that the reading takes, are together of bulk at most 1048576: NARROWER than '..Said'. Prove '..Said' where nothing that the law and all that it calls make is longer than what came in: it says more and counts as full. Else prove '..UptoSaid'. A law counts once. -/
mutual
def uptoBulk {H : Type} : DataW H → Nat
  | .lit (.string bytes) => bytes.length + 1
  | .lit _ => 1
  | .nil => 1
  | .ptr d => uptoBulk d + 1
  | .slice elems spare => uptoBulkAll elems + uptoBulkAll spare + 1
  | .agg parts => uptoBulkAll parts + 1
  | .iface _ d => uptoBulk d + 1
  | .map entries => uptoBulkEntries entries + 1
  | .held _ => 1
def uptoBulkAll {H : Type} : List (DataW H) → Nat
  | [] => 0
  | d :: r => uptoBulk d + uptoBulkAll r
def uptoBulkEntries {H : Type} : List (Lit × DataW H) → Nat
  | [] => 0
  | x :: r => uptoBulkEntry x + uptoBulkEntries r
def uptoBulkEntry {H : Type} : Lit × DataW H → Nat
  | (.string bytes, d) => bytes.length + uptoBulk d + 1
  | (_, d) => uptoBulk d + 1
 end
def uptoSmall : (H : Type) → List (DataW H) → Bool := fun _ ds => decide (uptoBulkAll ds ≤ 1048576)
def OpenSpec.upto (s : _root_.Go.ChangeSpec) : _root_.Go.OpenSpec := { _root_.Go.OpenSpec.ofChange s with cond := some uptoSmall }

/-- 'casematelaw06.EccBlank', WHERE WHAT IT READS IS OF BULK AT MOST 1048576: true; the input reads as it did. -/
def eccBlankUptoRow : OpenClaim := { program := "ytfpdloccmneabaa", sum := "a5bf2b5dc9ee0678de00c2ca51facb9be6ce4e9c9d4cf1ef53041f26a0d7e2ac", func := "casemate/casematelaw06.EccBlank", spec := "eccBlank", unfollowed := true, recurses := true, apart := false, narrowed := true }
def EccBlankUptoSaid : Prop := eccBlankUptoRow.holds Try.pinned (OpenSpec.upto eccBlankSpec)

/-- 'casematelaw06.EccSectors', WHERE WHAT IT READS IS OF BULK AT MOST 1048576: true; the input reads as it did. -/
def eccSectorsUptoRow : OpenClaim := { program := "ytfpdloccmneabaa", sum := "a5bf2b5dc9ee0678de00c2ca51facb9be6ce4e9c9d4cf1ef53041f26a0d7e2ac", func := "casemate/casematelaw06.EccSectors", spec := "eccSectors", unfollowed := true, recurses := true, apart := false, narrowed := true }
def EccSectorsUptoSaid : Prop := eccSectorsUptoRow.holds Try.pinned (OpenSpec.upto eccSectorsSpec)

/-- 'casematelaw06.EccPacks', WHERE WHAT IT READS IS OF BULK AT MOST 1048576: true; the input reads as it did. -/
def eccPacksUptoRow : OpenClaim := { program := "ytfpdloccmneabaa", sum := "a5bf2b5dc9ee0678de00c2ca51facb9be6ce4e9c9d4cf1ef53041f26a0d7e2ac", func := "casemate/casematelaw06.EccPacks", spec := "eccPacks", unfollowed := true, recurses := true, apart := false, narrowed := true }
def EccPacksUptoSaid : Prop := eccPacksUptoRow.holds Try.pinned (OpenSpec.upto eccPacksSpec)

/-- 'casematelaw06.EccUnpacks', WHERE WHAT IT READS IS OF BULK AT MOST 1048576: true; the input reads as it did. -/
def eccUnpacksUptoRow : OpenClaim := { program := "ytfpdloccmneabaa", sum := "a5bf2b5dc9ee0678de00c2ca51facb9be6ce4e9c9d4cf1ef53041f26a0d7e2ac", func := "casemate/casematelaw06.EccUnpacks", spec := "eccUnpacks", unfollowed := true, recurses := true, apart := false, narrowed := true }
def EccUnpacksUptoSaid : Prop := eccUnpacksUptoRow.holds Try.pinned (OpenSpec.upto eccUnpacksSpec)

/-- 'casematelaw06.EccCorrects', WHERE WHAT IT READS IS OF BULK AT MOST 1048576: true; the input reads as it did. -/
def eccCorrectsUptoRow : OpenClaim := { program := "ytfpdloccmneabaa", sum := "a5bf2b5dc9ee0678de00c2ca51facb9be6ce4e9c9d4cf1ef53041f26a0d7e2ac", func := "casemate/casematelaw06.EccCorrects", spec := "eccCorrects", unfollowed := true, recurses := true, apart := false, narrowed := true }
def EccCorrectsUptoSaid : Prop := eccCorrectsUptoRow.holds Try.pinned (OpenSpec.upto eccCorrectsSpec)

/-- 'casematelaw06.EccTorn', WHERE WHAT IT READS IS OF BULK AT MOST 1048576: true; the input reads as it did. -/
def eccTornUptoRow : OpenClaim := { program := "ytfpdloccmneabaa", sum := "a5bf2b5dc9ee0678de00c2ca51facb9be6ce4e9c9d4cf1ef53041f26a0d7e2ac", func := "casemate/casematelaw06.EccTorn", spec := "eccTorn", unfollowed := true, recurses := true, apart := false, narrowed := true }
def EccTornUptoSaid : Prop := eccTornUptoRow.holds Try.pinned (OpenSpec.upto eccTornSpec)

end Rows
end Go.Proofs.Ytfpdloccmneabaa

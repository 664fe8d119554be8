/- What the functions of layer 1 (bits) and of its reference come to, in plain Lean: bits, rows of bits, what is turned, what is apart. Conditions: the rows are bytes, as long as the statements let in. -/
import Derived.Test.YtfclloehamgplaaPx0
import Derived.Test.YtfclloehamgplaaPx7
import Derived.Test.YtfclloehamgplaaMNum
set_option linter.unusedVariables false
set_option linter.unusedSimpArgs false
namespace Go.Proofs.Ytfclloehamgplaa.L
open Go Go.RowKit Go.Proofs.Ytfclloehamgplaa.P Go.Proofs.YtfclloehamgplaaW.PrintWords Go.Proofs.YtfclloehamgplaaW.PrintLast Go.Proofs.YtfclloehamgplaaW.PrintMore Go.Proofs.CsM
def b2i (b : Bool) : Int := if b then 1 else 0
def ints (ns : List Nat) : List Int := ns.map fun (n : Nat) => (n : Int)
theorem fuel {k n : Nat} (h : n < k) : ∃ m, k = m + 1 := ⟨k - 1, by omega⟩
/-- The bits of a row, as numbers. -/
def bl (l : List Int) : List Int := (List.range (8 * l.length)).map fun i => b2i (bitAt l i)
/-- Where two rows are unlike. -/
def apart (a b : List Int) : List Nat := diffs (fun i => bitAt a i ^^ bitAt b i) (8 * a.length)
/-- The ones of a number below 256. -/
def ones8 (n : Nat) : Nat := cnt (fun j => n.testBit j) 8
def ones (l : List Int) : Nat := cnt (bitAt l) (8 * l.length)
end Go.Proofs.Ytfclloehamgplaa.L

/- Words of the print, as far as this proof leans on them. No condition. -/
import Derived.Test.YtfpdloccmneabaaWWords
import Derived.Laws.StructEq
namespace Go.Proofs.YtfpdloccmneabaaW.PrintWords
open Go.RowKit
section
variable {P : Program} {d : Nat} {xs ys : Array Value} {f : Field} {fs : List Field} {a b : Value} {r s : Bool} {w : World}
end
end Go.Proofs.YtfpdloccmneabaaW.PrintWords

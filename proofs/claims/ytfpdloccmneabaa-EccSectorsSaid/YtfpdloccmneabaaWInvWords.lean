/- Words of the print, as far as this proof leans on them. No condition. -/
import Derived.Test.YtfpdloccmneabaaWInv
import Derived.Test.YtfpdloccmneabaaWFootNe
namespace Go.Proofs.YtfpdloccmneabaaW.PrintWords
open Go.RowKit
end Go.Proofs.YtfpdloccmneabaaW.PrintWords
namespace Go.Proofs.YtfpdloccmneabaaW.PrintLast
section
variable {ops : Array Oper} {a : Act} {o og : Oper} {g : Nat} {t : Tmp} {u : Bool}
end
end Go.Proofs.YtfpdloccmneabaaW.PrintLast

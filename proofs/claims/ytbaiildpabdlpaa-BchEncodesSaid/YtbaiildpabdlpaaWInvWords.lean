/- Words of the print, as far as this proof leans on them. No condition. -/
import Derived.Test.YtbaiildpabdlpaaWInv
import Derived.Test.YtbaiildpabdlpaaWFootNe
namespace Go.Proofs.YtbaiildpabdlpaaW.PrintWords
open Go.RowKit
end Go.Proofs.YtbaiildpabdlpaaW.PrintWords
namespace Go.Proofs.YtbaiildpabdlpaaW.PrintLast
section
variable {ops : Array Oper} {a : Act} {o og : Oper} {g : Nat} {t : Tmp} {u : Bool}
end
end Go.Proofs.YtbaiildpabdlpaaW.PrintLast

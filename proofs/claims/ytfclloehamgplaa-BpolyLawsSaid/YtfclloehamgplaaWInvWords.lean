/- Words of the print, as far as this proof leans on them. No condition. -/
import Derived.Test.YtfclloehamgplaaWInv
import Derived.Test.YtfclloehamgplaaWFootNe
namespace Go.Proofs.YtfclloehamgplaaW.PrintWords
open Go.RowKit
end Go.Proofs.YtfclloehamgplaaW.PrintWords
namespace Go.Proofs.YtfclloehamgplaaW.PrintLast
section
variable {ops : Array Oper} {a : Act} {o og : Oper} {g : Nat} {t : Tmp} {u : Bool}
end
end Go.Proofs.YtfclloehamgplaaW.PrintLast

/- Words of the print, as far as this proof leans on them. No condition. -/
import Derived.Test.YtfclloehamgplaaWTab
namespace Go.Proofs.YtfclloehamgplaaW.PrintLast
section
variable {P : Program} {ops : Array Oper} {Q : Exit → Act → World → Prop} {md : Region.Mode} {S : World → Prop} {ds : List Nat} {T : Bool × List (List Nat × List Nat)}
end
end Go.Proofs.YtfclloehamgplaaW.PrintLast

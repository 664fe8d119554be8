/- Words of the print, as far as this proof leans on them. No condition. -/
import Derived.Test.YtfpdloccmneabaaWTab
namespace Go.Proofs.YtfpdloccmneabaaW.PrintLast
section
variable {P : Program} {ops : Array Oper} {Q : Exit → Act → World → Prop} {md : Region.Mode} {S : World → Prop} {ds : List Nat} {T : Bool × List (List Nat × List Nat)}
end
end Go.Proofs.YtfpdloccmneabaaW.PrintLast

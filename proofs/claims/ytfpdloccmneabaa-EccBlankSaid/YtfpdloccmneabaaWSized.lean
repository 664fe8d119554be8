/- Words of the print, as far as this proof leans on them. No condition. -/
import Derived.SizedLaws
import Derived.ChangeSlices
namespace Go.Proofs.YtfpdloccmneabaaW.PrintWords
open Go.ChangeShapes Go.WideShapes
end Go.Proofs.YtfpdloccmneabaaW.PrintWords

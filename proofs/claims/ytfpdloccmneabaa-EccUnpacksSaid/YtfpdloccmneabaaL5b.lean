/- At most t places that turn are put right. No condition. -/
import Derived.Test.YtfpdloccmneabaaL5
import Derived.Test.YtfpdloccmneabaaPx0
import Derived.Test.YtfpdloccmneabaaPx6
set_option linter.unusedVariables false
set_option linter.unusedSimpArgs false
namespace Go.Proofs.Ytfpdloccmneabaa.L
open Go Go.RowKit Go.Proofs.Ytfpdloccmneabaa.P Go.Proofs.YtfpdloccmneabaaW.PrintWords Go.Proofs.YtfpdloccmneabaaW.PrintLast Go.Proofs.YtfpdloccmneabaaW.PrintMore Go.Proofs.CsM
theorem w13 {t : Nat} (h : t ≤ 8) : wrap64 (13 * (t : Int)) = ((13 * t : Nat) : Int) := by rw [w64 (by omega) (by omega)]; omega
end Go.Proofs.Ytfpdloccmneabaa.L

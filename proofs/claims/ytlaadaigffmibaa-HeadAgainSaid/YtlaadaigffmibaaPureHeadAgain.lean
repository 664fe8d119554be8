/- The pure statement of the law HeadAgain: what the printed function of the law comes to is true at every input. No condition. -/
import Derived.Test.YtlaadaigffmibaaHead
import Derived.Test.YtlaadaigffmibaaPx13
set_option linter.unusedVariables false
set_option linter.unusedSimpArgs false
namespace Go.Proofs.Ytlaadaigffmibaa.Pure
open Go Go.RowKit Go.Proofs.Ytlaadaigffmibaa.P Go.Proofs.YtlaadaigffmibaaW.PrintWords Go.Proofs.YtlaadaigffmibaaW.PrintLast Go.Proofs.YtlaadaigffmibaaW.PrintMore Go.Proofs.CsM Go.Proofs.Ytlaadaigffmibaa.L
theorem HeadAgain (g0 g1 g2 g3 g4 : Int) (l : List Int) (hl : Byt l) : casematelaw09_HeadAgain.f g0 g1 g2 g3 g4 l = some true := by
  unfold casematelaw09_HeadAgain.f
  by_cases h0 : (l.length : Int) > 5000
  · rw [if_pos h0]
  · rw [if_neg h0]
    by_cases h : GOK g0 g1 g2 g3 g4 ∧ (l.length : Int) = g2 * g3
    · rcases parse_f h.1 hl h.2 with ⟨hp, e⟩ | ⟨hp, e⟩
      · rw [e, Option.bind_some, if_pos rfl, bytes_f h.1, if_pos hp.1, Option.bind_some, awake, Option.bind_some, if_pos rfl, if_pos rfl]
        simp only
        rw [hp.2, str_beq hl hl]; simp
      · rw [e, Option.bind_some, if_neg (by decide), awake, Option.bind_some, if_pos rfl]; rfl
    · rw [parse_no l h, Option.bind_some, if_neg (by decide), awake, Option.bind_some, if_pos rfl]; rfl
end Go.Proofs.Ytlaadaigffmibaa.Pure

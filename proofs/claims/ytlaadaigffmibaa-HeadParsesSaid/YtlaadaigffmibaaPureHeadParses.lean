/- The pure statement of the law HeadParses: what the printed function of the law comes to is true at every input. No condition. -/
import Derived.Test.YtlaadaigffmibaaHead
import Derived.Test.YtlaadaigffmibaaPx11
set_option linter.unusedVariables false
set_option linter.unusedSimpArgs false
namespace Go.Proofs.Ytlaadaigffmibaa.Pure
open Go Go.RowKit Go.Proofs.Ytlaadaigffmibaa.P Go.Proofs.YtlaadaigffmibaaW.PrintWords Go.Proofs.YtlaadaigffmibaaW.PrintLast Go.Proofs.YtlaadaigffmibaaW.PrintMore Go.Proofs.CsM Go.Proofs.Ytlaadaigffmibaa.L
theorem HeadParses (g0 g1 g2 g3 g4 : Int) (l : List Int) (hl : Byt l) : ∃ k, casematelaw09_HeadParses.f k g0 g1 g2 g3 g4 l = some true := by
  refine ⟨10, ?_⟩
  unfold casematelaw09_HeadParses.f
  by_cases h0 : (l.length : Int) > 5000
  · rw [if_pos h0]
  · rw [if_neg h0, Option.bind_some, if_pos (by simp; omega), Option.bind_some, List.nil_append]
    have no : ∀ x y z : Int, head_Parse.f g0 g1 g2 g3 g4 l = some (0, 0, 0, 1) → casematelaw09_HeadParses.j0 10 l 1 true g0 g1 g2 g3 g4 0 0 0 = some true := fun x y z _ => by
      rw [casematelaw09_HeadParses.j0, if_pos rfl, awake, Option.bind_some, if_pos rfl, if_pos rfl]; rfl
    by_cases h : GOK g0 g1 g2 g3 g4
    · by_cases hn : (l.length : Int) = g2 * g3
      · have p9 := parse9 h hl hn (k := 9) (by omega)
        have e2 : ((l.length : Int) != g2 * g3) = false := by rw [hn]; simp
        rcases parse_f h hl hn with ⟨hp, e⟩ | ⟨hp, e⟩
        · rw [e, Option.bind_some, if_pos rfl, may6, Option.bind_some, if_pos (by simpa using h), room6 h, Option.bind_some, e2, casematelaw09_HeadParses.j0, if_neg (by simp), p9.1 hp, Option.bind_some, if_pos rfl, awake, Option.bind_some, if_pos rfl, if_pos rfl]
          simp
        · rw [e, Option.bind_some, if_pos rfl, may6, Option.bind_some, if_pos (by simpa using h), room6 h, Option.bind_some, e2, casematelaw09_HeadParses.j0, if_neg (by simp), p9.2 hp, Option.bind_some, if_neg (by simp), awake, Option.bind_some, if_pos rfl, if_pos rfl]
          rfl
      · have e := parse_no (g0 := g0) (g1 := g1) (g4 := g4) l (fun hh => hn hh.2)
        have e2 : ((l.length : Int) != g2 * g3) = true := by simpa using hn
        rw [e, Option.bind_some, if_pos rfl, may6, Option.bind_some, if_pos (by simpa using h), room6 h, Option.bind_some, e2]
        exact no 0 0 0 e
    · have e := parse_no l (fun hh => h hh.1)
      rw [e, Option.bind_some, if_pos rfl, may6, Option.bind_some, if_neg (by simpa using h)]
      exact no 0 0 0 e
end Go.Proofs.Ytlaadaigffmibaa.Pure

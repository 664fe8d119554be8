/- The pure statement of the law GfLaws: what the printed function of the law comes to is true at every input. No condition. -/
import Derived.Test.YtbpjhlkcolgmjaaGf
import Derived.Test.YtbpjhlkcolgmjaaPx5
set_option linter.unusedVariables false
set_option linter.unusedSimpArgs false
namespace Go.Proofs.Ytbpjhlkcolgmjaa.Pure
open Go Go.RowKit Go.Proofs.Ytbpjhlkcolgmjaa.P Go.Proofs.YtbpjhlkcolgmjaaW.PrintWords Go.Proofs.YtbpjhlkcolgmjaaW.PrintLast Go.Proofs.YtbpjhlkcolgmjaaW.PrintMore Go.Proofs.CsM Go.Proofs.Ytbpjhlkcolgmjaa.L
theorem GfLaws : casematelaw02_GfLaws.Pure := by
  intro x y z hx hy hz
  refine ⟨9000, ?_⟩
  unfold casematelaw02_GfLaws.f
  have quit : ∀ k, casematelaw02_GfLaws.j0 (k + 1) x y z true = some true := fun k => by rw [casematelaw02_GfLaws.j0, if_pos rfl]
  rw [r2_Is, Option.bind_some]
  by_cases h1 : isEl x
  · rw [if_pos (decide_eq_true h1), r2_Is, Option.bind_some]
    by_cases h2 : isEl y
    · rw [if_pos (decide_eq_true h2), r2_Is, Option.bind_some]
      by_cases h3 : isEl z
      · rw [decide_eq_true h3, Bool.not_true]
        obtain ⟨a, rfl⟩ := exists_el h1
        obtain ⟨b, rfl⟩ := exists_el h2
        obtain ⟨c, rfl⟩ := exists_el h3
        have e1 : gi 1 = 1 := rfl
        have e0 : gi 0 = 0 := rfl
        show casematelaw02_GfLaws.j0 (8999 + 1) _ _ _ _ = _
        rw [casematelaw02_GfLaws.j0, if_neg (by simp), r2_Sum a b (by omega), Option.bind_some, awake (by omega), Option.bind_some, if_pos rfl, law_mul a b (by omega), Option.bind_some, law_mul b a (by omega), Option.bind_some, if_pos (by rw [R2.mul_comm]), Option.bind_some,
          law_mul _ c (by omega), Option.bind_some, law_mul b c (by omega), Option.bind_some, law_mul a _ (by omega), Option.bind_some, if_pos (by rw [R2.mul_assoc]), law_mul _ c (by omega), Option.bind_some, law_mul a c (by omega), Option.bind_some, Option.bind_some, r2_Sum _ _ (by omega), Option.bind_some,
          if_pos (by rw [r_add_mul]), law_mul _ _ (by omega), Option.bind_some, law_mul a a (by omega), Option.bind_some, law_mul b b (by omega), Option.bind_some, r2_Sum _ _ (by omega), Option.bind_some, if_pos (by rw [r_sq_add]), ← e1, law_mul a 1 (by omega), Option.bind_some, if_pos (by rw [R2.mul_one]), ← e0, law_mul a 0 (by omega), Option.bind_some, r_mul_zero]
        simp
      · rw [decide_eq_false h3]; exact quit 8999
    · rw [if_neg (dno h2)]; exact quit 8999
  · rw [if_neg (dno h1)]; exact quit 8999
end Go.Proofs.Ytbpjhlkcolgmjaa.Pure

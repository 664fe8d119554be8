/- The pure statement of the law GfInverts: what the printed function of the law comes to is true at every input. No condition. -/
import Derived.Test.YtbpjhlkcolgmjaaGf
import Derived.Test.YtbpjhlkcolgmjaaPx6
set_option linter.unusedVariables false
set_option linter.unusedSimpArgs false
namespace Go.Proofs.Ytbpjhlkcolgmjaa.Pure
open Go Go.RowKit Go.Proofs.Ytbpjhlkcolgmjaa.P Go.Proofs.YtbpjhlkcolgmjaaW.PrintWords Go.Proofs.YtbpjhlkcolgmjaaW.PrintLast Go.Proofs.YtbpjhlkcolgmjaaW.PrintMore Go.Proofs.CsM Go.Proofs.Ytbpjhlkcolgmjaa.L
theorem ginv_mul {a b : GF} (ha : a ≠ 0) (hb : b ≠ 0) : ginv a * ginv b = ginv (a * b) := by
  unfold ginv; rw [mul_pw]
theorem GfInverts : casematelaw02_GfInverts.Pure := by
  intro x y hx hy
  refine ⟨9000, ?_⟩
  unfold casematelaw02_GfInverts.f
  have quit : ∀ k, casematelaw02_GfInverts.j0 (k + 1) x y true = some true := fun k => by rw [casematelaw02_GfInverts.j0, if_pos rfl]
  rw [r2_Is, Option.bind_some]
  by_cases h1 : isEl x
  · rw [if_pos (decide_eq_true h1), r2_Is, Option.bind_some]
    by_cases h2 : isEl y
    · rw [if_pos (decide_eq_true h2)]
      obtain ⟨a, rfl⟩ := exists_el h1
      obtain ⟨b, rfl⟩ := exists_el h2
      by_cases ha : a = 0
      · rw [if_pos (gi_eq_zero.2 ha)]; exact quit 8999
      · rw [if_neg (gne ha)]
        by_cases hb : b = 0
        · rw [show (gi b == 0) = true from by rw [hb]; rfl]; exact quit 8999
        · rw [show (gi b == 0) = false from beq_eq_false_iff_ne.2 (gne hb)]
          show casematelaw02_GfInverts.j0 (8999 + 1) _ _ _ = _
          have hab := gmul_ne ha hb
          rw [casematelaw02_GfInverts.j0, if_neg (by simp), g_Inv a ha (by omega), Option.bind_some, g_Inv b hb (by omega), Option.bind_some, law_mul a b (by omega), Option.bind_some, g_Inv _ hab (by omega), Option.bind_some, awake (by omega), Option.bind_some, if_pos rfl, if_pos rfl, if_pos rfl, if_pos rfl,
            law_mul a _ (by omega), Option.bind_some, if_pos (by rw [mul_ginv ha]; rfl), law_mul _ _ (by omega), Option.bind_some, if_pos (by rw [ginv_mul ha hb]), Option.bind_some]
          congr 1
          rw [bne_iff_ne]; exact gne hab
    · rw [if_neg (dno h2)]; exact quit 8999
  · rw [if_neg (dno h1)]; exact quit 8999
end Go.Proofs.Ytbpjhlkcolgmjaa.Pure

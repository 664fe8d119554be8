/- The pure statement of the law HeadBack: what the printed function of the law comes to is true at every input. No condition. -/
import Derived.Test.YtlaadaigffmibaaHead
import Derived.Test.YtlaadaigffmibaaPx12
set_option linter.unusedVariables false
set_option linter.unusedSimpArgs false
namespace Go.Proofs.Ytlaadaigffmibaa.Pure
open Go Go.RowKit Go.Proofs.Ytlaadaigffmibaa.P Go.Proofs.YtlaadaigffmibaaW.PrintWords Go.Proofs.YtlaadaigffmibaaW.PrintLast Go.Proofs.YtlaadaigffmibaaW.PrintMore Go.Proofs.CsM Go.Proofs.Ytlaadaigffmibaa.L
theorem HeadBack (g0 g1 g2 g3 g4 a0 a1 a2 b0 b1 b2 : Int) : ∃ k, casematelaw09_HeadBack.f k g0 g1 g2 g3 g4 a0 a1 a2 b0 b1 b2 = some true := by
  refine ⟨1, ?_⟩
  unfold casematelaw09_HeadBack.f
  have no : ∀ x y, casematelaw09_HeadBack.j0 1 x y true g0 g1 g2 g3 g4 a0 a1 a2 b0 b1 b2 = some true := fun x y => by
    rw [casematelaw09_HeadBack.j0, if_pos rfl, awake, Option.bind_some]
  by_cases h : GOK g0 g1 g2 g3 g4
  · have hr := h.rb
    rw [bytes_f h, Option.bind_some, bytes_f h, Option.bind_some]
    by_cases ha : HOK g1 g2 g3 a0 a1 a2
    case neg => rw [if_neg ha, if_neg (by decide)]; exact no _ _
    rw [if_pos ha, if_pos rfl]
    by_cases hb : HOK g1 g2 g3 b0 b1 b2
    case neg => rw [if_neg hb]; exact no _ _
    rw [if_pos hb, show ((0 : Int) != 0) = false from rfl, casematelaw09_HeadBack.j0, if_neg (by simp)]
    simp only
    obtain ⟨x1, x2, x3⟩ := ha.bd h
    obtain ⟨y1, y2, y3⟩ := hb.bd h
    obtain ⟨n1, n2, n3⟩ := numAt_page (g2 * g3) a0 a1 a2 x1 x2 x3
    obtain ⟨m1, m2, m3⟩ := numAt_page (g2 * g3) b0 b1 b2 y1 y2 y3
    have hlen : ((page (g2 * g3) a0 a1 a2).length : Int) = g2 * g3 := by rw [page_length hr.1]; omega
    rcases parse_f h (page_byt (g2 * g3) a0 a1 a2) hlen with ⟨_, e⟩ | ⟨hp, _⟩
    · rw [e, n1, n2, n3, Option.bind_some, awake, Option.bind_some, if_pos rfl, if_pos rfl]
      simp only [beq_self_eq_true, Bool.and_self, if_true]
      rw [str_beq (page_byt _ _ _ _) (page_byt _ _ _ _)]
      by_cases he : a0 = b0 ∧ a1 = b1 ∧ a2 = b2
      · obtain ⟨rfl, rfl, rfl⟩ := he
        simp
      · have hne : ¬ page (g2 * g3) a0 a1 a2 = page (g2 * g3) b0 b1 b2 := fun e => he ⟨by rw [← n1, e, m1], by rw [← n2, e, m2], by rw [← n3, e, m3]⟩
        rw [decide_eq_false hne]
        have : (a0 == b0 && (a1 == b1 && a2 == b2)) = false := by
          rw [Bool.eq_false_iff]; intro hh
          simp only [Bool.and_eq_true, beq_iff_eq] at hh
          exact he ⟨hh.1, hh.2.1, hh.2.2⟩
        rw [this]; rfl
    · exact absurd ⟨by rw [n1, n2, n3]; exact ha, by rw [n1, n2, n3]⟩ hp
  · rw [bytes_no h, Option.bind_some, bytes_no h, Option.bind_some, if_neg (by decide)]; exact no _ _
end Go.Proofs.Ytlaadaigffmibaa.Pure

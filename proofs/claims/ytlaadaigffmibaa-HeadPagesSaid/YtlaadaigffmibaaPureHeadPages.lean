/- The pure statement of the law HeadPages: what the printed function of the law comes to is true at every input. No condition. -/
import Derived.Test.YtlaadaigffmibaaHead
import Derived.Test.YtlaadaigffmibaaPx14
set_option linter.unusedVariables false
set_option linter.unusedSimpArgs false
namespace Go.Proofs.Ytlaadaigffmibaa.Pure
open Go Go.RowKit Go.Proofs.Ytlaadaigffmibaa.P Go.Proofs.YtlaadaigffmibaaW.PrintWords Go.Proofs.YtlaadaigffmibaaW.PrintLast Go.Proofs.YtlaadaigffmibaaW.PrintMore Go.Proofs.CsM Go.Proofs.Ytlaadaigffmibaa.L
theorem pagesN_mono {r a b : Int} (hr : 0 < r) (h : a ≤ b) : (a + r - 1) / r ≤ (b + r - 1) / r := Int.ediv_le_ediv hr (by omega)
theorem pagesN_cap {r n : Int} (hr : 0 < r) (hn : 0 ≤ n) : (n * r + r - 1) / r = n := by
  have : n * r + r - 1 = (r - 1) + n * r := by omega
  rw [this, Int.add_mul_ediv_right _ _ (by omega), Int.ediv_eq_zero_of_lt (by omega) (by omega)]; omega
theorem pages_small {r b : Int} (hr : 16 ≤ r) (hr' : r ≤ 4096) (hb : 0 ≤ b) (hb' : b ≤ 258048) : (b + r - 1) / r * r ≤ 262144 ∧ (b + r - 1) / r ≤ 262144 := by
  have e2 := Int.mul_ediv_add_emod (b + r - 1) r
  have e4 := Int.emod_nonneg (b + r - 1) (show r ≠ 0 by omega)
  have e5 : (b + r - 1) / r * r = r * ((b + r - 1) / r) := Int.mul_comm _ _
  have e6 : (b + r - 1) / r ≤ b + r - 1 := Int.ediv_le_self _ (by omega)
  omega
theorem HeadPages (g0 g1 g2 g3 g4 a b : Int) : ∃ k, casematelaw09_HeadPages.f k g0 g1 g2 g3 g4 a b = some true := by
  refine ⟨1, ?_⟩
  unfold casematelaw09_HeadPages.f
  by_cases h : GOK g0 g1 g2 g3 g4
  · have hr := h.rb
    have hc := cap_bd h
    have hg := h.2.1
    rw [pages_f h, Option.bind_some, pages_f h, Option.bind_some, cap_f h, Option.bind_some]
    have no : ∀ x y z : Int, casematelaw09_HeadPages.j0 1 a b x y z true g0 g1 g2 g3 g4 = some true := fun x y z => by
      rw [casematelaw09_HeadPages.j0, if_pos rfl, awake, Option.bind_some]
    by_cases ha : 0 ≤ a ∧ a ≤ capN g1 g2 g3
    case neg => rw [if_neg ha, if_neg (by decide)]; exact no _ _ _
    rw [if_pos ha, if_pos rfl]
    by_cases hb : 0 ≤ b ∧ b ≤ capN g1 g2 g3
    case neg => rw [if_neg hb, if_neg (by decide)]; exact no _ _ _
    rw [if_pos hb, if_pos rfl]
    simp only
    rw [show ((0 : Int) != 0) = false from rfl, casematelaw09_HeadPages.j0, if_neg (by simp), pages_f h, if_pos ⟨by omega, Int.le_refl _⟩, Option.bind_some, awake, Option.bind_some, if_pos rfl, if_pos rfl]
    have e1 := pagesN_bd (r := g2 * g3) (by omega) ha.1
    have e2 := pages_small hr.1 hr.2 ha.1 (by omega)
    have e3 : pagesN g2 g3 (capN g1 g2 g3) = g1 - 1 := pagesN_cap (by omega) (by omega)
    have e4 : (some (pagesN g2 g3 (capN g1 g2 g3) == wrap64 (g1 - 1)) : Option Bool) = some true := by rw [e3, w64 (by omega) (by omega)]; simp
    have e5 : a ≤ b → pagesN g2 g3 a ≤ pagesN g2 g3 b := fun hab => pagesN_mono (by omega) hab
    have e6 : wrap64 (pagesN g2 g3 a * wrap64 (g2 * g3)) = pagesN g2 g3 a * (g2 * g3) := by
      rw [h.w]; unfold pagesN; exact w64 (by have : 0 ≤ (a + g2 * g3 - 1) / (g2 * g3) * (g2 * g3) := Int.mul_nonneg e1.1 (by omega)
                                             omega) (by omega)
    have e7 : pagesN g2 g3 a * (g2 * g3) ≥ a := e1.2.1
    have e8 : ¬ pagesN g2 g3 a = 0 → wrap64 (wrap64 (pagesN g2 g3 a - 1) * wrap64 (g2 * g3)) < a := fun hne => by
      rcases e1.2.2 with hz | hz
      · exact absurd hz hne
      · have e9 : 0 ≤ ((a + g2 * g3 - 1) / (g2 * g3) - 1) * (g2 * g3) := Int.mul_nonneg (by unfold pagesN at hne; omega) (by omega)
        rw [h.w]
        unfold pagesN at hne ⊢
        rw [w64 (n := (a + g2 * g3 - 1) / (g2 * g3) - 1) (by omega) (by omega), w64 (by omega) (by omega)]
        exact hz
    rw [e6]
    by_cases hab : a > b
    · rw [if_pos hab, if_pos e7]
      by_cases hz : pagesN g2 g3 a = 0
      · rw [if_pos hz]; exact e4
      · rw [if_neg hz, if_pos (e8 hz)]; exact e4
    · rw [if_neg hab, if_pos (e5 (by omega)), if_pos e7]
      by_cases hz : pagesN g2 g3 a = 0
      · rw [if_pos hz]; exact e4
      · rw [if_neg hz, if_pos (e8 hz)]; exact e4
  · rw [pages_no h, Option.bind_some, pages_no h, Option.bind_some, cap_no h, Option.bind_some, if_neg (by decide), casematelaw09_HeadPages.j0, if_pos rfl, awake, Option.bind_some]
end Go.Proofs.Ytlaadaigffmibaa.Pure

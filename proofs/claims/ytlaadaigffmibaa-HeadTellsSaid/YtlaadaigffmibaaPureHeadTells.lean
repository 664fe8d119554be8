/- The pure statement of the law HeadTells: what the printed function of the law comes to is true at every input. No condition. -/
import Derived.Test.YtlaadaigffmibaaHead
import Derived.Test.YtlaadaigffmibaaPx8
import Derived.Test.YtlaadaigffmibaaPx5
set_option linter.unusedVariables false
set_option linter.unusedSimpArgs false
namespace Go.Proofs.Ytlaadaigffmibaa.Pure
open Go Go.RowKit Go.Proofs.Ytlaadaigffmibaa.P Go.Proofs.YtlaadaigffmibaaW.PrintWords Go.Proofs.YtlaadaigffmibaaW.PrintLast Go.Proofs.YtlaadaigffmibaaW.PrintMore Go.Proofs.CsM Go.Proofs.Ytlaadaigffmibaa.L
theorem pages9_l0 {g0 g1 g2 g3 g4 : Int} (h : GOK g0 g1 g2 g3 g4) (b : Int) (hb : 0 ≤ b) (hb' : b ≤ 258048) : ∀ (d k : Nat) (n : Int), 0 ≤ n → n + d = pagesN g2 g3 b → d < k → casemateref09_Pages.l0 k b n g0 g1 g2 g3 g4 = some (pagesN g2 g3 b)
  | 0, k, n, h0, hn, hk => by
    have hr := h.rb
    obtain ⟨k, rfl⟩ := fuel hk
    have e1 := pagesN_bd (r := g2 * g3) (by omega) hb
    have e2 := Int.mul_ediv_add_emod (b + g2 * g3 - 1) (g2 * g3)
    have e4 := Int.emod_nonneg (b + g2 * g3 - 1) (show g2 * g3 ≠ 0 by omega)
    have e5 : (b + g2 * g3 - 1) / (g2 * g3) * (g2 * g3) = g2 * g3 * ((b + g2 * g3 - 1) / (g2 * g3)) := Int.mul_comm _ _
    have hn' : n = (b + g2 * g3 - 1) / (g2 * g3) := by unfold pagesN at hn; omega
    rw [casemateref09_Pages.l0, room6 h, Option.bind_some, hn', w64 (n := (b + g2 * g3 - 1) / (g2 * g3) * (g2 * g3)) (by have := Int.mul_nonneg e1.1 (show 0 ≤ g2 * g3 by omega); omega) (by omega), if_neg (by have := e1.2.1; omega)]
    rfl
  | d + 1, k, n, h0, hn, hk => by
    have hr := h.rb
    obtain ⟨k, rfl⟩ := fuel hk
    have e1 := pagesN_bd (r := g2 * g3) (by omega) hb
    have hlt : n * (g2 * g3) < b := by
      unfold pagesN at hn
      rcases e1.2.2 with hz | hz
      · omega
      · refine Int.lt_of_le_of_lt ?_ hz
        exact Int.mul_le_mul_of_nonneg_right (by omega) (by omega)
    have e3 : 0 ≤ n * (g2 * g3) := Int.mul_nonneg h0 (by omega)
    have e6 : (b + g2 * g3 - 1) / (g2 * g3) ≤ b + g2 * g3 - 1 := Int.ediv_le_self _ (by omega)
    rw [casemateref09_Pages.l0, room6 h, Option.bind_some, w64 (n := n * (g2 * g3)) (by omega) (by omega), if_pos hlt, w64 (n := n + 1) (by omega) (by unfold pagesN at hn; omega)]
    exact pages9_l0 h b hb hb' d k (n + 1) (by omega) (by omega) (by omega)
theorem pages9_f {g0 g1 g2 g3 g4 : Int} (h : GOK g0 g1 g2 g3 g4) (b : Int) (hb : 0 ≤ b) (hb' : b ≤ 258048) {k : Nat} (hk : 300000 < k) : casemateref09_Pages.f k g0 g1 g2 g3 g4 b = some (pagesN g2 g3 b) := by
  have hr := h.rb
  have e1 := pagesN_bd (r := g2 * g3) (by omega) hb
  have e6 : (b + g2 * g3 - 1) / (g2 * g3) ≤ b + g2 * g3 - 1 := Int.ediv_le_self _ (by omega)
  unfold casemateref09_Pages.f
  exact pages9_l0 h b hb hb' (pagesN g2 g3 b).toNat k 0 (by omega) (by unfold pagesN; omega) (by unfold pagesN; omega)
theorem HeadTells (g0 g1 g2 g3 g4 b a0 a1 a2 : Int) : ∃ k, casematelaw09_HeadTells.f k g0 g1 g2 g3 g4 b a0 a1 a2 = some true := by
  refine ⟨300010, ?_⟩
  unfold casematelaw09_HeadTells.f
  by_cases h : GOK g0 g1 g2 g3 g4
  · have hc := cap_bd h
    have j2 : casematelaw09_HeadTells.j2 300008 (if HOK g1 g2 g3 a0 a1 a2 then (page (g2 * g3) a0 a1 a2, (0 : Int)) else ([], 1)).1 (if HOK g1 g2 g3 a0 a1 a2 then (page (g2 * g3) a0 a1 a2, (0 : Int)) else ([], 1)).2 g0 g1 g2 g3 g4 a0 a1 a2 = some true := by
      rw [casematelaw09_HeadTells.j2, may9 h, Option.bind_some]
      by_cases hh : HOK g1 g2 g3 a0 a1 a2
      · rw [if_pos (by simpa using hh), if_pos hh, awake, Option.bind_some, if_pos rfl, if_pos rfl, bytes9 h _ _ _ hh (by omega), Option.bind_some]
        simp
      · rw [if_neg (by simpa using hh), if_neg hh, awake, Option.bind_some, if_pos rfl, if_pos rfl]; rfl
    rw [cap_f h, Option.bind_some, pages_f h, Option.bind_some, bytes_f h, Option.bind_some, may6, Option.bind_some, if_pos (by simpa using h), cap9 h, Option.bind_some, if_pos rfl]
    rw [show ((0 : Int) != 0) = false from rfl, casematelaw09_HeadTells.j0, if_neg (by simp)]
    by_cases hb : 0 ≤ b ∧ b ≤ capN g1 g2 g3
    · rw [if_neg (by omega), if_pos hb]
      simp only
      rw [show decide (b > capN g1 g2 g3) = false from decide_eq_false (by omega), casematelaw09_HeadTells.j1, if_neg (by simp), pages9_f h b hb.1 (by omega) (by omega), Option.bind_some, if_pos rfl, if_pos rfl]
      exact j2
    · rw [if_neg hb]
      have j1 : casematelaw09_HeadTells.j1 300009 b 0 1 (if HOK g1 g2 g3 a0 a1 a2 then (page (g2 * g3) a0 a1 a2, (0 : Int)) else ([], 1)).1 (if HOK g1 g2 g3 a0 a1 a2 then (page (g2 * g3) a0 a1 a2, (0 : Int)) else ([], 1)).2 true g0 g1 g2 g3 g4 a0 a1 a2 = some true := by
        rw [casematelaw09_HeadTells.j1, if_pos rfl, if_pos rfl, if_pos rfl]; exact j2
      by_cases hb0 : b < 0
      · rw [if_pos hb0]; exact j1
      · rw [if_neg hb0]
        simp only
        rw [show decide (b > capN g1 g2 g3) = true from decide_eq_true (by omega)]; exact j1
  · rw [cap_no h, Option.bind_some, pages_no h, Option.bind_some, bytes_no h, Option.bind_some, may6, Option.bind_some, if_neg (by simpa using h), awake, Option.bind_some, if_pos rfl, if_pos rfl, if_pos rfl, if_pos rfl]
    decide +kernel
end Go.Proofs.Ytlaadaigffmibaa.Pure

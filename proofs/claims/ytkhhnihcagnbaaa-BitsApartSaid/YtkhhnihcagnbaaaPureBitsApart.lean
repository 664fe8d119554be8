/- The pure statement of the law BitsApart: what the printed function of the law comes to is true at every input. No condition. -/
import Derived.Test.YtkhhnihcagnbaaaBits
import Derived.Test.YtkhhnihcagnbaaaPx7
set_option linter.unusedVariables false
set_option linter.unusedSimpArgs false
namespace Go.Proofs.Ytkhhnihcagnbaaa.Pure
open Go Go.RowKit Go.Proofs.Ytkhhnihcagnbaaa.P Go.Proofs.YtkhhnihcagnbaaaW.PrintWords Go.Proofs.YtkhhnihcagnbaaaW.PrintLast Go.Proofs.YtkhhnihcagnbaaaW.PrintMore Go.Proofs.CsM Go.Proofs.Ytkhhnihcagnbaaa.L
theorem BitsApart : casematelaw01_BitsApart.Pure := by
  intro l0 l1 _ _ hw _ _ hw1
  have hb := byt_wf hw
  have hb1 := byt_wf hw1
  refine ⟨6000, ?_⟩
  unfold casematelaw01_BitsApart.f
  rw [small_f, Option.bind_some, small_f, Option.bind_some]
  by_cases hn : l0.length ≤ 200
  · rw [if_pos (by simp [hn])]
    by_cases hm : l1.length ≤ 200
    · rw [show (!decide (l1.length ≤ 200 ∧ ([] : List Int).length ≤ 300)) = false from by simp [hm]]
      show casematelaw01_BitsApart.j0 (5999 + 1) l0 l1 false = _
      rw [casematelaw01_BitsApart.j0]
      rw [if_neg (by simp)]
      by_cases hl : l0.length = l1.length
      · have ha := apart_le l0 l1
        rw [b_Apart_ok hb hb1 (by omega) hl (by omega), Option.bind_some, if_pos (by omega), awake (by omega), Option.bind_some, if_pos rfl, if_pos rfl, r1_Apart hb hb1 (by omega) hl (by omega), Option.bind_some, r1_Ints _ _ (by rw [ints_length]; omega) (by rw [ints_length]; omega), Option.bind_some]
        simp
      · rw [b_Apart_no hl, Option.bind_some, if_neg (by omega), awake (by omega), Option.bind_some, if_pos rfl, if_pos rfl]; simp
    · rw [show (!decide (l1.length ≤ 200 ∧ ([] : List Int).length ≤ 300)) = true from by simp [hm]]
      show casematelaw01_BitsApart.j0 (5999 + 1) l0 l1 true = _
      rw [casematelaw01_BitsApart.j0]
      rw [if_pos rfl]
  · rw [if_neg (by simp [hn])]
    show casematelaw01_BitsApart.j0 (5999 + 1) l0 l1 true = _
    rw [casematelaw01_BitsApart.j0]
    rw [if_pos rfl]
end Go.Proofs.Ytkhhnihcagnbaaa.Pure

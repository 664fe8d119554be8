/- The pure statement of the law GfLogs: what the printed function of the law comes to is true at every input. No condition. -/
import Derived.Test.YtbpjhlkcolgmjaaGf
import Derived.Test.YtbpjhlkcolgmjaaPx3
set_option linter.unusedVariables false
set_option linter.unusedSimpArgs false
namespace Go.Proofs.Ytbpjhlkcolgmjaa.Pure
open Go Go.RowKit Go.Proofs.Ytbpjhlkcolgmjaa.P Go.Proofs.YtbpjhlkcolgmjaaW.PrintWords Go.Proofs.YtbpjhlkcolgmjaaW.PrintLast Go.Proofs.YtbpjhlkcolgmjaaW.PrintMore Go.Proofs.CsM Go.Proofs.Ytbpjhlkcolgmjaa.L
theorem GfLogs : casematelaw02_GfLogs.Pure := by
  intro x hx
  refine ⟨9000, ?_⟩
  unfold casematelaw02_GfLogs.f
  by_cases h : isEl x
  · obtain ⟨a, rfl⟩ := exists_el h
    by_cases h0 : a = 0
    · subst h0
      rw [gi_zero, g_Log_zero, Option.bind_some, r2_Is, Option.bind_some, if_pos (by decide), if_pos rfl, awake (by omega), Option.bind_some, if_pos rfl, if_pos rfl]; rfl
    · obtain ⟨n, hn, rfl⟩ := exists_pw h0
      have hm : n % 8191 = n := Nat.mod_eq_of_lt hn
      rw [g_Log n hn (by omega), Option.bind_some, r2_Is, Option.bind_some, if_pos (decide_eq_true h), if_neg (gne h0), awake (by omega), Option.bind_some, if_pos rfl, if_pos rfl, if_pos (show ((n : Int), (0 : Int)).1 ≥ 0 by show (n : Int) ≥ 0; omega), if_pos (show ((n : Int), (0 : Int)).1 < 8191 by show (n : Int) < 8191; omega), r2_Exp _ (by omega), Option.bind_some]
      show some (gi (pw w (ex (n : Int))) == gi (pw w n)) = some true
      rw [ex_nat, hm]; simp
  · rw [g_Log_no x h, Option.bind_some, r2_Is, Option.bind_some, if_neg (dno h), awake (by omega), Option.bind_some, if_pos rfl, if_pos rfl]; rfl
end Go.Proofs.Ytbpjhlkcolgmjaa.Pure

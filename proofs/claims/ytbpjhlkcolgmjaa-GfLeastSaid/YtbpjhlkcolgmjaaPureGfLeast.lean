/- The pure statement of the law GfLeast: what the printed function of the law comes to is true at every input. No condition. -/
import Derived.Test.YtbpjhlkcolgmjaaGf
import Derived.Test.YtbpjhlkcolgmjaaPx7
set_option linter.unusedVariables false
set_option linter.unusedSimpArgs false
namespace Go.Proofs.Ytbpjhlkcolgmjaa.Pure
open Go Go.RowKit Go.Proofs.Ytbpjhlkcolgmjaa.P Go.Proofs.YtbpjhlkcolgmjaaW.PrintWords Go.Proofs.YtbpjhlkcolgmjaaW.PrintLast Go.Proofs.YtbpjhlkcolgmjaaW.PrintMore Go.Proofs.CsM Go.Proofs.Ytbpjhlkcolgmjaa.L
theorem GfLeast : casematelaw02_GfLeast.Pure := by
  intro x y hx hy
  refine ⟨9000, ?_⟩
  unfold casematelaw02_GfLeast.f
  have quit : ∀ k, casematelaw02_GfLeast.j0 (k + 1) x y true = some true := fun k => by rw [casematelaw02_GfLeast.j0, if_pos rfl]
  rw [r2_Is, Option.bind_some]
  by_cases h1 : isEl x
  · rw [if_pos (decide_eq_true h1), r2_Is, Option.bind_some]
    by_cases h2 : isEl y
    · rw [if_pos (decide_eq_true h2)]
      obtain ⟨a, rfl⟩ := exists_el h1
      obtain ⟨b, rfl⟩ := exists_el h2
      by_cases ha : a = 0
      · rw [if_pos (gi_eq_zero.2 ha)]; exact quit 8999
      · rw [if_neg (gne ha)]
        by_cases hb : b = 0
        · rw [show (gi b == 0) = true from by rw [hb]; rfl]; exact quit 8999
        · rw [show (gi b == 0) = false from beq_eq_false_iff_ne.2 (gne hb)]
          show casematelaw02_GfLeast.j0 (8999 + 1) _ _ _ = _
          obtain ⟨n, hn, rfl⟩ := exists_pw ha
          obtain ⟨m, hm, rfl⟩ := exists_pw hb
          have hab : pw w n * pw w m = pw w ((n + m) % 8191) := by rw [pw_mod w_ne, pw_add]
          have hlt : (n + m) % 8191 < 8191 := Nat.mod_lt _ (by omega)
          have hin : ginv (pw w n) = pw w ((n * 8190) % 8191) := by unfold ginv; rw [← pw_mul, pw_mod w_ne]
          have hlt2 : (n * 8190) % 8191 < 8191 := Nat.mod_lt _ (by omega)
          rw [casematelaw02_GfLeast.j0, if_neg (by simp), g_Inv _ ha (by omega), Option.bind_some, g_Log n hn (by omega), Option.bind_some, g_Log m hm (by omega), Option.bind_some, law_mul _ _ (by omega), Option.bind_some, hab, g_Log _ hlt (by omega), Option.bind_some, hin, g_Log _ hlt2 (by omega), Option.bind_some,
            awake (by omega), Option.bind_some, if_pos rfl, if_pos rfl, if_pos rfl, if_pos rfl, if_pos rfl, w64 (show -9223372036854775808 ≤ (n : Int) + (m : Int) by omega) (by omega), tmd 8191 (by omega), if_pos (by show ((n : Int) + (m : Int)) % 8191 = (((n + m) % 8191 : Nat) : Int); omega), w64 (show -9223372036854775808 ≤ (n : Int) + ((n * 8190 % 8191 : Nat) : Int) by omega) (by omega), tmd 8191 (by omega)]
          congr 1
          rw [beq_iff_eq]; omega
    · rw [if_neg (dno h2)]; exact quit 8999
  · rw [if_neg (dno h1)]; exact quit 8999
end Go.Proofs.Ytbpjhlkcolgmjaa.Pure

/- The pure statement of the law GfPowers: what the printed function of the law comes to is true at every input. No condition. -/
import Derived.Test.YtbpjhlkcolgmjaaGf
import Derived.Test.YtbpjhlkcolgmjaaPx10
set_option linter.unusedVariables false
set_option linter.unusedSimpArgs false
namespace Go.Proofs.Ytbpjhlkcolgmjaa.Pure
open Go Go.RowKit Go.Proofs.Ytbpjhlkcolgmjaa.P Go.Proofs.YtbpjhlkcolgmjaaW.PrintWords Go.Proofs.YtbpjhlkcolgmjaaW.PrintLast Go.Proofs.YtbpjhlkcolgmjaaW.PrintMore Go.Proofs.CsM Go.Proofs.Ytbpjhlkcolgmjaa.L
theorem GfPowers : casematelaw02_GfPowers.Pure := by
  intro x m n hx hm hn
  refine ⟨9000, ?_⟩
  unfold casematelaw02_GfPowers.f
  have quit : ∀ k, casematelaw02_GfPowers.j0 (k + 1) x m n true = some true := fun k => by rw [casematelaw02_GfPowers.j0, if_pos rfl]
  rw [r2_Is, Option.bind_some]
  by_cases h1 : isEl x
  · rw [if_pos (decide_eq_true h1)]
    obtain ⟨a, rfl⟩ := exists_el h1
    by_cases ha : a = 0
    · rw [if_pos (gi_eq_zero.2 ha)]; exact quit 8999
    · rw [if_neg (gne ha)]
      by_cases c1 : m < -100000
      · rw [if_pos c1]; exact quit 8999
      · rw [if_neg c1]
        by_cases c2 : m > 100000
        · rw [if_pos c2]; exact quit 8999
        · rw [if_neg c2]
          by_cases c3 : n < -100000
          · rw [if_pos c3]; exact quit 8999
          · rw [if_neg c3]
            by_cases c4 : n > 100000
            · rw [decide_eq_true c4]; exact quit 8999
            · rw [decide_eq_false c4]
              show casematelaw02_GfPowers.j0 (8999 + 1) _ _ _ _ = _
              obtain ⟨l, hl, hal⟩ := exists_pw ha
              obtain ⟨t1, t2, t3⟩ := tmod_ex m
              have hw : pw w (ex ((l : Int) * Int.tmod m 8191)) = pw a (ex m) := by
                rw [hal, ← pw_mul, pw_w_inj]
                have h5 : Int.tmod m 8191 % 8191 = m % 8191 := by
                  have := ex_cast m
                  split at t1 <;> omega
                have e : ((ex ((l : Int) * Int.tmod m 8191) : Nat) : Int) % 8191 = ((l * ex m : Nat) : Int) % 8191 := by
                  rw [ex_cast, Int.emod_emod_of_dvd _ (Int.dvd_refl _), Int.natCast_mul, ex_cast, Int.mul_emod, h5, Int.mul_emod (l : Int) (m % 8191), Int.emod_emod_of_dvd _ (Int.dvd_refl _)]
                omega
              have hb : -(8191 * 8191) ≤ (l : Int) * Int.tmod m 8191 ∧ (l : Int) * Int.tmod m 8191 ≤ 8191 * 8191 := by
                constructor
                · have := Int.mul_le_mul_of_nonneg_left (show -8191 ≤ Int.tmod m 8191 by omega) (show (0 : Int) ≤ l by omega)
                  omega
                · have := Int.mul_le_mul_of_nonneg_left (show Int.tmod m 8191 ≤ 8191 by omega) (show (0 : Int) ≤ l by omega)
                  omega
              have hlog : gf_Log.f 8999 (gi a) = some ((l : Int), 0) := by rw [hal]; exact g_Log l hl (by omega)
              rw [casematelaw02_GfPowers.j0, if_neg (by simp), g_Pow a ha m (by omega) (by omega) (by omega), Option.bind_some, g_Pow a ha n (by omega) (by omega) (by omega), Option.bind_some, w64 (show -9223372036854775808 ≤ m + n by omega) (by omega), g_Pow a ha (m + n) (by omega) (by omega) (by omega), Option.bind_some,
                hlog, Option.bind_some, awake (by omega), Option.bind_some, if_pos rfl, if_pos rfl, if_pos rfl, if_pos rfl, if_pos rfl, law_mul _ _ (by omega), Option.bind_some, if_pos (by rw [pw_ex_add ha]), w64 (show -9223372036854775808 ≤ (l : Int) * Int.tmod m 8191 by omega) (by omega), g_Exp _ (by omega) (by omega) (by omega), Option.bind_some, if_pos (by rw [hw]),
                g_Exp m (by omega) (by omega) (by omega), Option.bind_some, g_Exp n (by omega) (by omega) (by omega), Option.bind_some, law_mul _ _ (by omega), Option.bind_some, g_Exp (m + n) (by omega) (by omega) (by omega), Option.bind_some, pw_ex_add w_ne]
              simp
  · rw [if_neg (dno h1)]; exact quit 8999
end Go.Proofs.Ytbpjhlkcolgmjaa.Pure

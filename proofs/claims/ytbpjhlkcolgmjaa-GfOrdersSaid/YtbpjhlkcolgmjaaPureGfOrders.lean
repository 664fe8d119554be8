/- The pure statement of the law GfOrders: what the printed function of the law comes to is true at every input. No condition. -/
import Derived.Test.YtbpjhlkcolgmjaaGf
import Derived.Test.YtbpjhlkcolgmjaaPx11
set_option linter.unusedVariables false
set_option linter.unusedSimpArgs false
namespace Go.Proofs.Ytbpjhlkcolgmjaa.Pure
open Go Go.RowKit Go.Proofs.Ytbpjhlkcolgmjaa.P Go.Proofs.YtbpjhlkcolgmjaaW.PrintWords Go.Proofs.YtbpjhlkcolgmjaaW.PrintLast Go.Proofs.YtbpjhlkcolgmjaaW.PrintMore Go.Proofs.CsM Go.Proofs.Ytbpjhlkcolgmjaa.L
theorem orders_l0 (a : GF) (ha : a ≠ 0) (n : Int) (hn : -9223372036854775808 ≤ n ∧ n ≤ 9223372036854775807) : ∀ (d k j : Nat), j + d = 13 → d + 200 < k → casematelaw02_GfOrders.l0 k (gi a) n 1 0 (gi a) 0 (gi (pw a (2 ^ j))) (j : Int) = some true
  | 0, k, j, hd, hk => by
    obtain ⟨k, rfl⟩ := fuel hk
    have hj : j = 13 := by omega
    subst hj
    have e : pw a (2 ^ 13) = a := pw_8192 a
    rw [casematelaw02_GfOrders.l0, if_neg (by omega), awake (by omega), Option.bind_some, if_pos rfl, if_pos rfl, if_pos rfl, if_pos rfl, if_pos rfl, e, if_pos rfl, g_Exp n hn.1 hn.2 (by omega), Option.bind_some]
    congr 1
    rw [beq_iff_eq]
    have hd : (Int.tmod n 8191 = 0) ↔ n % 8191 = 0 := by
      rw [← Int.dvd_iff_tmod_eq_zero, ← Int.dvd_iff_emod_eq_zero]
    have h1 : (gi (pw w (ex n)) = 1) ↔ n % 8191 = 0 := by
      rw [show (1 : Int) = gi 1 from rfl, gi_inj, pw_w_one]
      have := ex_cast n; have := ex_lt n; omega
    by_cases h : n % 8191 = 0
    · rw [beq_iff_eq.2 (h1.2 h), beq_iff_eq.2 (hd.2 h)]
    · rw [beq_eq_false_iff_ne.2 (fun e => h (h1.1 e)), beq_eq_false_iff_ne.2 (fun e => h (hd.1 e))]
  | d + 1, k, j, hd, hk => by
    obtain ⟨k, rfl⟩ := fuel hk
    rw [casematelaw02_GfOrders.l0, if_pos (by omega), law_mul _ _ (by omega), Option.bind_some, w64 (by omega) (by omega), ← pw_two, ← pw_mul, ← Nat.pow_succ]
    exact orders_l0 a ha n hn d k (j + 1) (by omega) (by omega)
theorem GfOrders : casematelaw02_GfOrders.Pure := by
  intro x n hx hn
  have wn := wf64 hn
  refine ⟨9000, ?_⟩
  unfold casematelaw02_GfOrders.f
  have quit : ∀ k, casematelaw02_GfOrders.j0 (k + 1) x n true = some true := fun k => by rw [casematelaw02_GfOrders.j0, if_pos rfl]
  rw [r2_Is, Option.bind_some]
  by_cases h1 : isEl x
  · rw [if_pos (decide_eq_true h1)]
    obtain ⟨a, rfl⟩ := exists_el h1
    by_cases ha : a = 0
    · rw [show (gi a == 0) = true from by rw [ha]; rfl]; exact quit 8999
    · rw [show (gi a == 0) = false from beq_eq_false_iff_ne.2 (gne ha)]
      show casematelaw02_GfOrders.j0 (8999 + 1) _ _ _ = _
      have e1 : pw a (ex 8191) = 1 := rfl
      have e2 : pw a (ex 8192) = a := by show pw a 1 = a; rw [pw_one]
      rw [casematelaw02_GfOrders.j0, if_neg (by simp), g_Pow a ha 8191 (by omega) (by omega) (by omega), Option.bind_some, g_Pow a ha 8192 (by omega) (by omega) (by omega), Option.bind_some, e1, e2]
      have := orders_l0 a ha n wn 13 8999 0 (by omega) (by omega)
      rw [Nat.pow_zero, pw_one] at this
      exact this
  · rw [if_neg (dno h1)]; exact quit 8999
end Go.Proofs.Ytbpjhlkcolgmjaa.Pure

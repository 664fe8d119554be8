/- Lemmas for the laws of layer 2: the document's examples; products as the laws call them. -/
import Derived.Test.YtbpjhlkcolgmjaaL2
set_option linter.unusedVariables false
set_option linter.unusedSimpArgs false
namespace Go.Proofs.Ytbpjhlkcolgmjaa.Pure
open Go Go.RowKit Go.Proofs.Ytbpjhlkcolgmjaa.P Go.Proofs.YtbpjhlkcolgmjaaW.PrintWords Go.Proofs.YtbpjhlkcolgmjaaW.PrintLast Go.Proofs.YtbpjhlkcolgmjaaW.PrintMore Go.Proofs.CsM Go.Proofs.Ytbpjhlkcolgmjaa.L

theorem awake100 : casematelaw02_awake.f 100 = some true := by decide +kernel
theorem awake {k : Nat} (h : 100 ≤ k) : casematelaw02_awake.f k = some true := at_rounds (g := casematelaw02_awake.f) casematelaw02_awake.mono h awake100
theorem wf64 {x : Int} (h : (Lit.int .i64 x).wf = true) : -9223372036854775808 ≤ x ∧ x ≤ 9223372036854775807 := by
  simp only [Lit.wf, IntKind.min, IntKind.max, IntKind.signed, IntKind.bits, Bool.and_eq_true, decide_eq_true_eq] at h
  have h1 := h.1
  have h2 := h.2
  simp at h1 h2
  omega
theorem law_mul (a b : GF) {k : Nat} (hk : 13 < k) : casematelaw02_mul.f k (gi a) (gi b) = some (gi (a * b)) := by
  unfold casematelaw02_mul.f
  rw [g_Mul a b hk, Option.bind_some]
theorem dno {x : Int} (h : ¬ isEl x) : ¬ (decide (isEl x) = true) := by simp only [decide_eq_true_eq]; exact h
theorem gne {a : GF} (h : a ≠ 0) : ¬ gi a = 0 := fun e => h (gi_eq_zero.1 e)
theorem exists_pw {a : GF} (h : a ≠ 0) : ∃ n, n < 8191 ∧ a = pw w n := by
  obtain ⟨n, h1, h2⟩ := exists_log h
  exact ⟨n, h1, h2.symm⟩

end Go.Proofs.Ytbpjhlkcolgmjaa.Pure

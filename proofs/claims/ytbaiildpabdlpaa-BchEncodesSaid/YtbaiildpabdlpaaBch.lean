/- Lemmas for the laws of layer 5: strings, places that turn, the document's examples. -/
import Derived.Test.YtbaiildpabdlpaaL5
import Derived.Test.YtbaiildpabdlpaaPx0
import Derived.Test.YtbaiildpabdlpaaPx1
import Derived.Test.YtbaiildpabdlpaaPx8
set_option linter.unusedVariables false
set_option linter.unusedSimpArgs false
namespace Go.Proofs.Ytbaiildpabdlpaa.Pure
open Go Go.RowKit Go.Proofs.Ytbaiildpabdlpaa.P Go.Proofs.YtbaiildpabdlpaaW.PrintWords Go.Proofs.YtbaiildpabdlpaaW.PrintLast Go.Proofs.YtbaiildpabdlpaaW.PrintMore Go.Proofs.CsM Go.Proofs.Ytbaiildpabdlpaa.L
theorem awake : Evt fun k => casematelaw05_awake.f k = some true := by
  have e : casematelaw05_awake.f 160 = some true := by decide +kernel
  exact ⟨160, fun k hk => at_rounds (g := casematelaw05_awake.f) casematelaw05_awake.mono hk e⟩
theorem l_small (l m : List Int) : casematelaw05_small.f l m = some (decide (l.length ≤ 40 ∧ m.length ≤ 40)) := by
  unfold casematelaw05_small.f
  by_cases h : l.length ≤ 40
  · rw [if_pos (by omega)]; congr 1; rw [Bool.eq_iff_iff, decide_eq_true_iff, decide_eq_true_iff]; omega
  · rw [if_neg (by omega), decide_eq_false (by omega)]
theorem nat_of {t : Int} (h : ¬ (t < 1 ∨ t > 8)) : ∃ u : Nat, t = (u : Int) ∧ 1 ≤ u ∧ u ≤ 8 := ⟨t.toNat, by omega, by omega, by omega⟩
theorem w13 {t : Nat} (h : t ≤ 8) : wrap64 (13 * (t : Int)) = ((13 * t : Nat) : Int) := by rw [w64 (by omega) (by omega)]; omega
theorem w2 {t : Nat} (h : t ≤ 8) : wrap64 (2 * (t : Int)) = ((2 * t : Nat) : Int) := by rw [w64 (by omega) (by omega)]; omega
end Go.Proofs.Ytbaiildpabdlpaa.Pure

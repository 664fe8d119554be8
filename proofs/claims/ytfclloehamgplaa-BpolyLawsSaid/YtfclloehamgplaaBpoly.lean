/- Lemmas for the laws of layer 4: strings, degrees, the document's examples. -/
import Derived.Test.YtfclloehamgplaaL4
import Derived.Test.YtfclloehamgplaaPx0
import Derived.Test.YtfclloehamgplaaPx4
import Derived.Test.YtfclloehamgplaaPx7
set_option linter.unusedVariables false
set_option linter.unusedSimpArgs false
namespace Go.Proofs.Ytfclloehamgplaa.Pure
open Go Go.RowKit Go.Proofs.Ytfclloehamgplaa.P Go.Proofs.YtfclloehamgplaaW.PrintWords Go.Proofs.YtfclloehamgplaaW.PrintLast Go.Proofs.YtfclloehamgplaaW.PrintMore Go.Proofs.CsM Go.Proofs.Ytfclloehamgplaa.L
theorem awake : Evt fun k => casematelaw04_awake.f k = some true := by
  have e : casematelaw04_awake.f 140 = some true := by decide +kernel
  exact ⟨140, fun k hk => at_rounds (g := casematelaw04_awake.f) casematelaw04_awake.mono hk e⟩
theorem l_small (l m : List Int) : casematelaw04_small.f l m = some (decide (l.length ≤ 60 ∧ m.length ≤ 60)) := by
  unfold casematelaw04_small.f
  by_cases h : l.length ≤ 60
  · rw [if_pos (by omega)]; congr 1; rw [Bool.eq_iff_iff, decide_eq_true_iff, decide_eq_true_iff]; omega
  · rw [if_neg (by omega), decide_eq_false (by omega)]
theorem degB {l : List Int} (hl : Byt l) (hn : l.length ≤ 1000) : Evt fun k => bpoly_Degree.f k l = some ((bsz l : Int) - 1) := Evt.of l.length fun k hk => b_Degree hl (by omega) hk
theorem bsz_pos {l : List Int} (h : toB l ≠ 0) : ∃ d, bsz l = d + 1 ∧ (toB l).c d = true ∧ Bd (toB l) (d + 1) := by
  obtain ⟨d, _, h1, h2⟩ := dtop (toB_bd l) h
  exact ⟨d, bsz_top (b_ne0.1 h1) h2, b_ne0.1 h1, h2⟩
end Go.Proofs.Ytfclloehamgplaa.Pure

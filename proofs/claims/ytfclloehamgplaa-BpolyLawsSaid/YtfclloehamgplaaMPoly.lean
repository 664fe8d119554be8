/- Plain mathematics: polynomials as series that end: tops, degrees, division, derivatives, roots. No condition. -/
import Derived.Test.YtfclloehamgplaaMGf
set_option linter.unusedVariables false
namespace Go.Proofs.CsM
section
variable {K : Type} [R2 K]
theorem pwXX_c (i : Nat) (f : Ser K) (j : Nat) : (pw XX i * f).c j = if i ≤ j then f.c (j - i) else 0 := by
  induction i generalizing j with
  | zero => rw [pw_zero, r_one_mul, if_pos (Nat.zero_le _)]; rfl
  | succ i ih =>
    rw [pw_succ, show pw XX i * XX * f = XX * (pw XX i * f) from by ac_rfl, XX_mul_c]
    by_cases h0 : j = 0
    · subst h0; rw [if_pos rfl, if_neg (by omega)]
    · rw [if_neg h0, ih]
      by_cases h : i + 1 ≤ j
      · rw [if_pos (by omega), if_pos h]; congr 1; omega
      · rw [if_neg (by omega), if_neg h]
/-- The derivative. -/
def der (f : Ser K) : Ser K := ⟨fun i => if i % 2 = 0 then f.c (i + 1) else 0⟩
end
section
variable {f g q a b : Ser GF} {n m : Nat}
end
end Go.Proofs.CsM

/- Plain mathematics: polynomials as series that end: tops, degrees, division, derivatives, roots. No condition. -/
import Derived.Test.YtfpdloccmneabaaMGf
set_option linter.unusedVariables false
namespace Go.Proofs.CsM
section
variable {K : Type} [R2 K]
theorem pwXX_c (i : Nat) (f : Ser K) (j : Nat) : (pw XX i * f).c j = if i ≤ j then f.c (j - i) else 0 := by
  induction i generalizing j with
  | zero => rw [pw_zero, r_one_mul, if_pos (Nat.zero_le _)]; rfl
  | succ i ih =>
    rw [pw_succ, show pw XX i * XX * f = XX * (pw XX i * f) from by ac_rfl, XX_mul_c]
    by_cases h0 : j = 0
    · subst h0; rw [if_pos rfl, if_neg (by omega)]
    · rw [if_neg h0, ih]
      by_cases h : i + 1 ≤ j
      · rw [if_pos (by omega), if_pos h]; congr 1; omega
      · rw [if_neg (by omega), if_neg h]
/-- The derivative. -/
def der (f : Ser K) : Ser K := ⟨fun i => if i % 2 = 0 then f.c (i + 1) else 0⟩
end
section
variable {f g q a b : Ser GF} {n m : Nat}
theorem exists_top (hf : Bd f n) (h0 : f ≠ 0) : ∃ d, d < n ∧ f.c d ≠ 0 ∧ Bd f (d + 1) := by
  induction n with
  | zero => exact absurd hf.zero_of h0
  | succ n ih =>
    by_cases h : f.c n = 0
    · obtain ⟨d, hd, h1, h2⟩ := ih (fun i hi => by
        by_cases e : i = n
        · subst e; exact h
        · exact hf i (by omega))
      exact ⟨d, by omega, h1, h2⟩
    · exact ⟨n, by omega, h, hf⟩
theorem ser_ne {d : Nat} (h : f.c d ≠ 0) : f ≠ 0 := fun e => h (by rw [e]; rfl)
end
end Go.Proofs.CsM

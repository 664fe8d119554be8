/- Plain mathematics: polynomials as series that end: tops, degrees, division, derivatives, roots. No condition. -/
import Derived.Test.YtfclloehamgplaaMGf
set_option linter.unusedVariables false
namespace Go.Proofs.CsM
section
variable {K : Type} [R2 K]
theorem pwXX_c (i : Nat) (f : Ser K) (j : Nat) : (pw XX i * f).c j = if i ≤ j then f.c (j - i) else 0 := by
  induction i generalizing j with
  | zero => rw [pw_zero, r_one_mul, if_pos (Nat.zero_le _)]; rfl
  | succ i ih =>
    rw [pw_succ, show pw XX i * XX * f = XX * (pw XX i * f) from by ac_rfl, XX_mul_c]
    by_cases h0 : j = 0
    · subst h0; rw [if_pos rfl, if_neg (by omega)]
    · rw [if_neg h0, ih]
      by_cases h : i + 1 ≤ j
      · rw [if_pos (by omega), if_pos h]; congr 1; omega
      · rw [if_neg (by omega), if_neg h]
/-- The derivative. -/
def der (f : Ser K) : Ser K := ⟨fun i => if i % 2 = 0 then f.c (i + 1) else 0⟩
theorem der_c (f : Ser K) (i : Nat) : (der f).c i = if i % 2 = 0 then f.c (i + 1) else 0 := rfl
theorem der_add (f g : Ser K) : der (f + g) = der f + der g := Ser.ext fun i => by
  rw [add_c, der_c, der_c, der_c, add_c]; split
  · rfl
  · rw [R2.add_zero]
theorem der_bd {f : Ser K} {n : Nat} (h : Bd f (n + 1)) : Bd (der f) n := fun i hi => by
  rw [der_c]; split
  · exact h _ (by omega)
  · rfl
theorem der_bd' {f : Ser K} {n : Nat} (h : Bd f n) : Bd (der f) n := der_bd (h.mono (Nat.le_succ n))
theorem der_mul (f g : Ser K) : der (f * g) = der f * g + f * der g := Ser.ext fun k => by
  rw [add_c, mul_c, mul_c, der_c]
  have e1 : sm (k + 1) (fun i => (der f).c i * g.c (k - i)) = sm (k + 1 + 1) (fun j => if j % 2 = 1 then f.c j * g.c (k + 1 - j) else 0) := by
    rw [sm_front (k + 1) (fun j => if j % 2 = 1 then f.c j * g.c (k + 1 - j) else 0), if_neg (by omega), r_zero_add]
    refine sm_congr fun i hi => ?_
    rw [der_c]
    by_cases h : i % 2 = 0
    · rw [if_pos h, if_pos (by omega), show k + 1 - (i + 1) = k - i from by omega]
    · rw [if_neg h, if_neg (by omega), r_zero_mul]
  have e2 : sm (k + 1) (fun i => f.c i * (der g).c (k - i)) = sm (k + 1 + 1) (fun j => if j % 2 = k % 2 then f.c j * g.c (k + 1 - j) else 0) := by
    rw [sm_succ (k + 1) (fun j => if j % 2 = k % 2 then f.c j * g.c (k + 1 - j) else 0), if_neg (by omega), R2.add_zero]
    refine sm_congr fun i hi => ?_
    rw [der_c]
    by_cases h : i % 2 = k % 2
    · rw [if_pos (by omega), if_pos h, show k - i + 1 = k + 1 - i from by omega]
    · rw [if_neg (by omega), if_neg h, r_mul_zero]
  rw [e1, e2, ← sm_add]
  by_cases hk : k % 2 = 0
  · rw [if_pos hk, mul_c]
    refine sm_congr fun i hi => ?_
    by_cases h : i % 2 = 1
    · rw [if_pos h, if_neg (by omega), R2.add_zero]
    · rw [if_neg h, if_pos (by omega), r_zero_add]
  · rw [if_neg hk]
    refine (sm_all0 fun i hi => ?_).symm
    by_cases h : i % 2 = 1
    · rw [if_pos h, if_pos (by omega), R2.add_self]
    · rw [if_neg h, if_neg (by omega), R2.add_zero]
theorem der_sq (f : Ser K) : der (f * f) = 0 := by rw [der_mul, R2.mul_comm f (der f), R2.add_self]
theorem der_zero : der (0 : Ser K) = 0 := Ser.ext fun i => by rw [der_c, zero_c, zero_c]; split <;> rfl
end

/-! ### tops -/
section
variable {f g q a b : Ser GF} {n m : Nat}
theorem exists_top (hf : Bd f n) (h0 : f ≠ 0) : ∃ d, d < n ∧ f.c d ≠ 0 ∧ Bd f (d + 1) := by
  induction n with
  | zero => exact absurd hf.zero_of h0
  | succ n ih =>
    by_cases h : f.c n = 0
    · obtain ⟨d, hd, h1, h2⟩ := ih (fun i hi => by
        by_cases e : i = n
        · subst e; exact h
        · exact hf i (by omega))
      exact ⟨d, by omega, h1, h2⟩
    · exact ⟨n, by omega, h, hf⟩
theorem top_mul {d e : Nat} (hf : f.c d ≠ 0) (hf' : Bd f (d + 1)) (hg : g.c e ≠ 0) (hg' : Bd g (e + 1)) : (f * g).c (d + e) ≠ 0 ∧ Bd (f * g) (d + e + 1) :=
  ⟨by rw [mul_top hf' hg']; exact gmul_ne hf hg, hf'.mul hg'⟩
theorem ser_ne {d : Nat} (h : f.c d ≠ 0) : f ≠ 0 := fun e => h (by rw [e]; rfl)
theorem ser_mul_ne (hf : Bd f n) (hg : Bd g m) (h0 : f ≠ 0) (h1 : g ≠ 0) : f * g ≠ 0 := by
  obtain ⟨d, _, h2, h3⟩ := exists_top hf h0
  obtain ⟨e, _, h4, h5⟩ := exists_top hg h1
  exact ser_ne (top_mul h2 h3 h4 h5).1
/-- A product that is shorter than one of its parts is 0. -/
theorem mul_short {d : Nat} (hq : q.c d ≠ 0) (hq' : Bd q (d + 1)) (ha : Bd a n) (h : Bd (a * q) d) : a = 0 := by
  by_cases h0 : a = 0
  · exact h0
  · obtain ⟨e, _, h4, h5⟩ := exists_top ha h0
    exact absurd (h (e + d) (by omega)) (top_mul h4 h5 hq hq').1
/-- There is one quotient, and one rest. -/
theorem div_unique {d : Nat} {a' b' : Ser GF} (hq : q.c d ≠ 0) (hq' : Bd q (d + 1)) (ha : Bd a n) (ha' : Bd a' n) (hb : Bd b d) (hb' : Bd b' d) (h : a * q + b = a' * q + b') : a = a' ∧ b = b' := by
  have e : (a + a') * q = b + b' := by
    rw [r_add_mul]
    have h2 : a * q = a' * q + b' + b := r_add_eq_iff.1 h
    rw [h2, show a' * q + b' + b + a' * q = (b + b') + (a' * q + a' * q) from by ac_rfl, R2.add_self, R2.add_zero]
  have h3 : a + a' = 0 := mul_short hq hq' (ha.add ha') (by rw [e]; exact hb.add hb')
  have h4 := r_add_eq_zero.1 h3
  refine ⟨h4, ?_⟩
  rw [h4] at h
  exact r_cancel h
end
end Go.Proofs.CsM

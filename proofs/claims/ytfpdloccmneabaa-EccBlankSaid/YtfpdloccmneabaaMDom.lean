/- Plain mathematics: polynomials over the ring of two and over the field of 8192: products, degrees, roots, least polynomials. No condition. -/
import Derived.Test.YtfpdloccmneabaaMPoly
set_option linter.unusedVariables false
namespace Go.Proofs.CsM
instance : R2 Bool where
  add := xor
  mul := and
  zero := false
  one := true
  add_assoc := by decide
  add_comm := by decide
  add_zero := by decide
  add_self := by decide
  mul_assoc := by decide
  mul_comm := by decide
  mul_one := by decide
  mul_add := by decide
theorem b_zero : (0 : Bool) = false := rfl
theorem b_one : (1 : Bool) = true := rfl
theorem b_ne0 {a : Bool} : a ≠ 0 ↔ a = true := by cases a <;> decide
class RD (K : Type) extends R2 K where
  mul_ne : ∀ a b : K, a ≠ 0 → b ≠ 0 → a * b ≠ 0
instance : RD GF := { (inferInstance : R2 GF) with mul_ne := fun _ _ => gmul_ne }
instance : RD Bool := { (inferInstance : R2 Bool) with mul_ne := by decide }
section
variable {K : Type} [RD K] {f g q a b : Ser K} {n m : Nat}
theorem dtop (hf : Bd f n) (h0 : f ≠ 0) : ∃ d, d < n ∧ f.c d ≠ 0 ∧ Bd f (d + 1) := by
  induction n with
  | zero => exact absurd hf.zero_of h0
  | succ n ih =>
    by_cases h : f.c n = 0
    · obtain ⟨d, hd, h1, h2⟩ := ih (fun i hi => by
        by_cases e : i = n
        · subst e; exact h
        · exact hf i (by omega))
      exact ⟨d, by omega, h1, h2⟩
    · exact ⟨n, by omega, h, hf⟩
end
def sz (c : Nat → Bool) : Nat → Nat
  | 0 => 0
  | n + 1 => if c n then n + 1 else sz c n
def b2g (b : Bool) : GF := if b then 1 else 0
def lift (f : Ser Bool) : Ser GF := ⟨fun i => b2g (f.c i)⟩
/-- The value of a row of bits at an element. -/
def vb (f : Ser Bool) (n : Nat) (x : GF) : GF := ev (lift f) n x
def lins : List GF → Ser GF
  | [] => 1
  | x :: xs => (XX + cst x) * lins xs
/-- The squares of the coefficients. -/
def frob (f : Ser GF) : Ser GF := ⟨fun i => f.c i * f.c i⟩
/-- The bits of a polynomial whose coefficients are bits. -/
def bitsOf (f : Ser GF) : Ser Bool := ⟨fun i => decide (f.c i = 1)⟩
def conj (x : GF) (k : Nat) : List GF := (List.range k).map fun i => pw x (2 ^ i)
/-- The powers of an element that have its least polynomial. -/
def cj (x : GF) : List GF := if x = 1 then [1] else conj x 13
/-- The least polynomial. -/
def mp (x : GF) : Ser Bool := bitsOf (lins (cj x))
def mdeg (x : GF) : Nat := if x = 1 then 1 else 13
end Go.Proofs.CsM

/- Plain mathematics: polynomials over the ring of two and over the field of 8192: products, degrees, roots, least polynomials. No condition. -/
import Derived.Test.YtfclloehamgplaaMPoly
set_option linter.unusedVariables false
namespace Go.Proofs.CsM
instance : R2 Bool where
  add := xor
  mul := and
  zero := false
  one := true
  add_assoc := by decide
  add_comm := by decide
  add_zero := by decide
  add_self := by decide
  mul_assoc := by decide
  mul_comm := by decide
  mul_one := by decide
  mul_add := by decide
theorem b_zero : (0 : Bool) = false := rfl
theorem b_one : (1 : Bool) = true := rfl
theorem b_ne0 {a : Bool} : a ≠ 0 ↔ a = true := by cases a <;> decide
class RD (K : Type) extends R2 K where
  mul_ne : ∀ a b : K, a ≠ 0 → b ≠ 0 → a * b ≠ 0
instance : RD GF := { (inferInstance : R2 GF) with mul_ne := fun _ _ => gmul_ne }
instance : RD Bool := { (inferInstance : R2 Bool) with mul_ne := by decide }
section
variable {K : Type} [RD K] {f g q a b : Ser K} {n m : Nat}
theorem dtop (hf : Bd f n) (h0 : f ≠ 0) : ∃ d, d < n ∧ f.c d ≠ 0 ∧ Bd f (d + 1) := by
  induction n with
  | zero => exact absurd hf.zero_of h0
  | succ n ih =>
    by_cases h : f.c n = 0
    · obtain ⟨d, hd, h1, h2⟩ := ih (fun i hi => by
        by_cases e : i = n
        · subst e; exact h
        · exact hf i (by omega))
      exact ⟨d, by omega, h1, h2⟩
    · exact ⟨n, by omega, h, hf⟩
theorem dtop_mul {d e : Nat} (hf : f.c d ≠ 0) (hf' : Bd f (d + 1)) (hg : g.c e ≠ 0) (hg' : Bd g (e + 1)) : (f * g).c (d + e) ≠ 0 ∧ Bd (f * g) (d + e + 1) :=
  ⟨by rw [mul_top hf' hg']; exact RD.mul_ne _ _ hf hg, hf'.mul hg'⟩
theorem dmul_short {d : Nat} (hq : q.c d ≠ 0) (hq' : Bd q (d + 1)) (ha : Bd a n) (h : Bd (a * q) d) : a = 0 := by
  by_cases h0 : a = 0
  · exact h0
  · obtain ⟨e, _, h4, h5⟩ := dtop ha h0
    exact absurd (h (e + d) (by omega)) (dtop_mul h4 h5 hq hq').1
theorem ddiv_unique {d : Nat} {a' b' : Ser K} (hq : q.c d ≠ 0) (hq' : Bd q (d + 1)) (ha : Bd a n) (ha' : Bd a' n) (hb : Bd b d) (hb' : Bd b' d) (h : a * q + b = a' * q + b') : a = a' ∧ b = b' := by
  have e : (a + a') * q = b + b' := by
    rw [r_add_mul]
    have h2 : a * q = a' * q + b' + b := r_add_eq_iff.1 h
    rw [h2, show a' * q + b' + b + a' * q = (b + b') + (a' * q + a' * q) from by ac_rfl, R2.add_self, R2.add_zero]
  have h3 : a + a' = 0 := dmul_short hq hq' (ha.add ha') (by rw [e]; exact hb.add hb')
  have h4 := r_add_eq_zero.1 h3
  refine ⟨h4, ?_⟩
  rw [h4] at h
  exact r_cancel h
end
def sz (c : Nat → Bool) : Nat → Nat
  | 0 => 0
  | n + 1 => if c n then n + 1 else sz c n
theorem sz_le (c : Nat → Bool) : ∀ n, sz c n ≤ n
  | 0 => Nat.le_refl _
  | n + 1 => by unfold sz; split; exact Nat.le_refl _; exact Nat.le_succ_of_le (sz_le c n)
theorem sz_zero (c : Nat → Bool) : ∀ n i, sz c n ≤ i → i < n → c i = false
  | 0, i, _, h => absurd h (Nat.not_lt_zero _)
  | n + 1, i, h, h' => by
    unfold sz at h
    by_cases e : c n = true
    · rw [if_pos e] at h; omega
    · rw [if_neg e] at h
      by_cases ei : i = n
      · subst ei; simpa using e
      · exact sz_zero c n i h (by omega)
theorem sz_top (c : Nat → Bool) : ∀ n, 0 < sz c n → c (sz c n - 1) = true
  | 0, h => absurd h (Nat.not_lt_zero _)
  | n + 1, h => by
    unfold sz at h ⊢
    by_cases e : c n = true
    · rw [if_pos e]; exact e
    · rw [if_neg e] at h ⊢; exact sz_top c n h
theorem sz_bd {f : Ser Bool} {n : Nat} (h : Bd f n) : Bd f (sz f.c n) := fun i hi => by
  by_cases e : i < n
  · exact sz_zero f.c n i hi e
  · exact h i (by omega)
theorem sz_is {f : Ser Bool} {n d : Nat} (hd : f.c d = true) (h : Bd f (d + 1)) (hn : d < n) : sz f.c n = d + 1 := by
  have h1 : d < sz f.c n := by
    have := sz_zero f.c n d
    refine Nat.lt_of_not_le fun hle => ?_
    have := this hle hn
    rw [hd] at this; cases this
  refine Nat.le_antisymm (Nat.le_of_not_lt fun h2 => ?_) h1
  have h3 := sz_top f.c n (by omega)
  have h4 := h (sz f.c n - 1) (by omega)
  rw [h3] at h4; exact absurd h4 (by decide)
theorem sz_0 {f : Ser Bool} (n : Nat) (h : f = 0) : sz f.c n = 0 := by
  refine Nat.eq_zero_of_not_pos fun h1 => ?_
  have := sz_top f.c n h1
  rw [h] at this; cases this
theorem sz_0' {f : Ser Bool} {n : Nat} (hb : Bd f n) (h : sz f.c n = 0) : f = 0 := by
  have := sz_bd hb; rw [h] at this; exact this.zero_of
theorem sz_any {f : Ser Bool} {n m : Nat} (hn : Bd f n) (hm : Bd f m) : sz f.c n = sz f.c m := by
  by_cases h : sz f.c n = 0
  · rw [h]; exact (sz_0 m (sz_0' hn h)).symm
  · have h1 := sz_top f.c n (by omega)
    have h2 : sz f.c n - 1 < m := by
      refine Nat.lt_of_not_le fun hle => ?_
      have := hm _ hle; rw [h1] at this; exact absurd this (by decide)
    have := sz_is (f := f) (n := m) h1 (by rw [show sz f.c n - 1 + 1 = sz f.c n from by omega]; exact sz_bd hn) h2
    omega
def b2g (b : Bool) : GF := if b then 1 else 0
theorem b2g_add (a b : Bool) : b2g (a + b) = b2g a + b2g b := by cases a <;> cases b <;> decide
theorem b2g_mul (a b : Bool) : b2g (a * b) = b2g a * b2g b := by cases a <;> cases b <;> decide
theorem b2g_sm (n : Nat) (f : Nat → Bool) : b2g (sm n f) = sm n (fun i => b2g (f i)) := by
  induction n with
  | zero => rfl
  | succ n ih => rw [sm_succ, sm_succ, b2g_add, ih]
def lift (f : Ser Bool) : Ser GF := ⟨fun i => b2g (f.c i)⟩
theorem lift_c (f : Ser Bool) (i : Nat) : (lift f).c i = b2g (f.c i) := rfl
theorem lift_mul (f g : Ser Bool) : lift (f * g) = lift f * lift g := Ser.ext fun k => by
  rw [lift_c, mul_c, mul_c, b2g_sm]
  exact sm_congr fun i _ => b2g_mul _ _
theorem lift_bd {f : Ser Bool} {n : Nat} (h : Bd f n) : Bd (lift f) n := fun i hi => by rw [lift_c, h i hi]; rfl
/-- The value of a row of bits at an element. -/
def vb (f : Ser Bool) (n : Nat) (x : GF) : GF := ev (lift f) n x
theorem vb_bd {f : Ser Bool} {n m : Nat} (h : Bd f n) (hnm : n ≤ m) (x : GF) : vb f m x = vb f n x := ev_bd (lift_bd h) hnm x
theorem vb_any {f : Ser Bool} {n m : Nat} (h : Bd f n) (h' : Bd f m) (x : GF) : vb f n x = vb f m x := by
  rcases Nat.le_total n m with hnm | hnm
  · exact (vb_bd h hnm x).symm
  · exact vb_bd h' hnm x
theorem vb_mul {f g : Ser Bool} {n m : Nat} (hf : Bd f n) (hg : Bd g m) (x : GF) : vb (f * g) (n + m) x = vb f n x * vb g m x := by unfold vb; rw [lift_mul, ev_mul (lift_bd hf) (lift_bd hg)]
def lins : List GF → Ser GF
  | [] => 1
  | x :: xs => (XX + cst x) * lins xs
/-- The squares of the coefficients. -/
def frob (f : Ser GF) : Ser GF := ⟨fun i => f.c i * f.c i⟩
/-- The bits of a polynomial whose coefficients are bits. -/
def bitsOf (f : Ser GF) : Ser Bool := ⟨fun i => decide (f.c i = 1)⟩
def conj (x : GF) (k : Nat) : List GF := (List.range k).map fun i => pw x (2 ^ i)
/-- The powers of an element that have its least polynomial. -/
def cj (x : GF) : List GF := if x = 1 then [1] else conj x 13
/-- The least polynomial. -/
def mp (x : GF) : Ser Bool := bitsOf (lins (cj x))
def mdeg (x : GF) : Nat := if x = 1 then 1 else 13
end Go.Proofs.CsM

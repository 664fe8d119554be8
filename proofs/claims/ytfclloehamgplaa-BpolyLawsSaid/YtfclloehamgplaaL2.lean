/- What the functions of layer 2 (gf) and of its reference come to, in plain Lean: the field's products, powers, inverses and logs. No condition but that numbers are elements, where it says so. -/
import Derived.Test.YtfclloehamgplaaL1
import Derived.Test.YtfclloehamgplaaPx0
import Derived.Test.YtfclloehamgplaaPx4
import Derived.Test.YtfclloehamgplaaPx7
import Derived.Test.YtfclloehamgplaaMGf
set_option linter.unusedVariables false
set_option linter.unusedSimpArgs false
namespace Go.Proofs.Ytfclloehamgplaa.L
open Go Go.RowKit Go.Proofs.Ytfclloehamgplaa.P Go.Proofs.YtfclloehamgplaaW.PrintWords Go.Proofs.YtfclloehamgplaaW.PrintLast Go.Proofs.YtfclloehamgplaaW.PrintMore Go.Proofs.CsM
/-- An element as a number; a number as an element. -/
def gi (a : GF) : Int := (a.v : Int)
theorem gi_lt (a : GF) : 0 ≤ gi a ∧ gi a < 8192 := by have := a.lt; unfold gi; omega
def isEl (x : Int) : Prop := 0 ≤ x ∧ x < 8192
instance (x : Int) : Decidable (isEl x) := by unfold isEl; exact inferInstance
def gof (x : Int) : GF := if h : isEl x then ⟨x.toNat, by unfold isEl at h; omega⟩ else 0
theorem gi_gof {x : Int} (h : isEl x) : gi (gof x) = x := by
  unfold gof; rw [dif_pos h]; unfold isEl at h; unfold gi; show ((x.toNat : Nat) : Int) = x; omega
theorem gi_one : gi 1 = 1 := rfl
theorem gi_el (a : GF) : isEl (gi a) := gi_lt a
theorem exists_el {x : Int} (h : isEl x) : ∃ a, x = gi a := ⟨gof x, (gi_gof h).symm⟩
theorem xor_gi (a b : GF) : Go.bits .xor .i64 (gi a) (gi b) = gi (a + b) := by
  have h1 := gi_lt a
  have h2 := gi_lt b
  rw [i64_xor h1.1 (by omega) h2.1 (by omega)]; rfl
theorem isEl_dec {x : Int} (h : x ≥ 0) : decide (x < 8192) = decide (isEl x) := by
  rw [Bool.eq_iff_iff, decide_eq_true_iff, decide_eq_true_iff]; unfold isEl; omega
theorem g_is (x : Int) : gf_is.f x = some (decide (isEl x)) := by
  unfold gf_is.f
  by_cases h : x ≥ 0
  · rw [if_pos h, isEl_dec h]
  · rw [if_neg h]; congr 1; exact (decide_eq_false (fun hx : isEl x => by unfold isEl at hx; omega)).symm
theorem r2_Is (x : Int) : casemateref02_Is.f x = some (decide (isEl x)) := by
  unfold casemateref02_Is.f
  by_cases h : x ≥ 0
  · rw [if_pos h, isEl_dec h]
  · rw [if_neg h]; congr 1; exact (decide_eq_false (fun hx : isEl x => by unfold isEl at hx; omega)).symm
theorem g_mul_l0 : ∀ (n k a b out : Nat), a < 8192 → out < 8192 → b < 2 ^ n → b < 8192 → n < k → gf_mul.l0 k (a : Int) (b : Int) (out : Int) = some ((out ^^^ M n a b : Nat) : Int)
  | n, k, a, b, out, ha, ho, hb, hb', hk => by
    obtain ⟨k, rfl⟩ := fuel hk
    rw [gf_mul.l0]
    by_cases h0 : b = 0
    · subst h0; rw [if_pos (by simp), M_zero, Nat.xor_zero]
    · obtain ⟨n, rfl⟩ : ∃ m, n = m + 1 := ⟨n - 1, by cases n with | zero => simp at hb; omega | succ n => rfl⟩
      have hM : M (n + 1) a b = (if b % 2 = 1 then a else 0) ^^^ M n (W a) (b / 2) := rfl
      have hbn : b / 2 < 2 ^ n := by rw [Nat.pow_succ] at hb; omega
      have hdiv : ((b : Int) / 2) = ((b / 2 : Nat) : Int) := by omega
      have hand : Go.bits .and .i64 (b : Int) 1 = (b : Int) % 2 := i64_and1 (by omega) (by omega)
      have h2a : wrap64 ((a : Int) * 2) = ((2 * a : Nat) : Int) := by rw [w64 (by omega) (by omega)]; omega
      have hx : Go.bits .xor .i64 ((2 * a : Nat) : Int) 8219 = (((2 * a) ^^^ 8219 : Nat) : Int) := by
        rw [i64_xor (by omega) (by omega) (by omega) (by omega), Int.toNat_natCast]; rfl
      have go : ∀ o : Nat, o < 8192 → (if ((2 * a : Nat) : Int) ≥ 8192 then gf_mul.l0 k (((2 * a) ^^^ 8219 : Nat) : Int) ((b / 2 : Nat) : Int) (o : Int) else gf_mul.l0 k ((2 * a : Nat) : Int) ((b / 2 : Nat) : Int) (o : Int)) = some ((o ^^^ M n (W a) (b / 2) : Nat) : Int) := by
        intro o ho'
        have ih := g_mul_l0 n k (W a) (b / 2) o (W_lt ha) ho' hbn (by omega) (by omega)
        rw [← ih]
        unfold W
        by_cases h : 8192 ≤ 2 * a
        · rw [if_pos (by omega), if_pos h]
        · rw [if_neg (by omega), if_neg h]
      rw [if_neg (by omega), hand, hM, h2a, hx, hdiv]
      by_cases h1 : b % 2 = 1
      · rw [if_pos (by omega), if_pos h1, ← Nat.xor_assoc, i64_xor (by omega) (by omega) (by omega) (by omega), Int.toNat_natCast, Int.toNat_natCast]
        exact go (out ^^^ a) (xor_lt ho ha)
      · rw [if_neg (by omega), if_neg h1, Nat.zero_xor]
        exact go out ho
  termination_by n => n
theorem g_mul (a b : GF) {k : Nat} (hk : 13 < k) : gf_mul.f k (gi a) (gi b) = some (gi (a * b)) := by
  unfold gf_mul.f
  have := g_mul_l0 13 k a.v b.v 0 a.lt (by omega) (by have := b.lt; simpa using this) b.lt hk
  rw [Nat.zero_xor] at this
  exact this
theorem g_Mul (a b : GF) {k : Nat} (hk : 13 < k) : gf_Mul.f k (gi a) (gi b) = some (gi (a * b), 0) := by
  unfold gf_Mul.f
  rw [g_is, Option.bind_some, if_pos (decide_eq_true (gi_el a)), g_is, Option.bind_some, if_pos (decide_eq_true (gi_el b)), g_mul a b hk, Option.bind_some]
/-- A number's place in the ring of powers. -/
def ex (n : Int) : Nat := (n % 8191).toNat
theorem xor_step (a b : Nat) : a ^^^ b = 2 * (a / 2 ^^^ b / 2) + (if a % 2 = b % 2 then 0 else 1) := by
  have h1 := xor_div2 a b
  have h2 := xor_mod2 a b
  split
  · rename_i h; rw [h] at h2; omega
  · rename_i h; omega
theorem r2_Sum_l0 : ∀ (n k a b : Nat) (out w : Int), a < 2 ^ n → b < 2 ^ n → n ≤ 20 → 0 ≤ out → 0 ≤ w → out + w * 2 ^ n ≤ 2 ^ 60 + w → 2 * n + 1 < k → casemateref02_Sum.l0 k (a : Int) (b : Int) out w = some (out + w * ((a ^^^ b : Nat) : Int))
  | n, k, a, b, out, w, ha, hb, hn, ho, hw, hs, hk => by
    obtain ⟨k, rfl⟩ := fuel hk
    obtain ⟨k, rfl⟩ := fuel (show 0 < k by omega)
    have e : casemateref02_Sum.l0 (k + 1 + 1) (a : Int) (b : Int) out w = casemateref02_Sum.j1 (k + 1) (a : Int) (b : Int) out w (decide (0 < a ∨ 0 < b)) := by
      rw [casemateref02_Sum.l0]
      by_cases h : 0 < a
      · rw [if_pos (by omega), decide_eq_true (show 0 < a ∨ 0 < b from .inl h)]
      · rw [if_neg (by omega)]
        congr 1
        by_cases h2 : 0 < b <;> simp [h, h2]
    rw [e, casemateref02_Sum.j1]
    by_cases h : 0 < a ∨ 0 < b
    · obtain ⟨n, rfl⟩ : ∃ m, n = m + 1 := ⟨n - 1, by cases n with | zero => simp at ha hb; omega | succ n => rfl⟩
      have hp : (2 : Int) ^ (n + 1) = 2 * 2 ^ n := by rw [Int.pow_succ]; omega
      have hp1 : (1 : Int) ≤ 2 ^ n := by have := Nat.one_le_two_pow (n := n); exact_mod_cast this
      have hw2 : w * 2 ^ (n + 1) = (2 * w) * 2 ^ n := by rw [hp, ← Int.mul_assoc, Int.mul_comm w 2]
      have hle : 2 * w ≤ (2 * w) * 2 ^ n := by
        have := Int.mul_le_mul_of_nonneg_left hp1 (show 0 ≤ 2 * w by omega)
        rwa [Int.mul_one] at this
      have hq0 : out + (2 * w) * 2 ^ n ≤ 2 ^ 60 + w := by rw [← hw2]; exact hs
      have h2w : out + w ≤ 2 ^ 60 := by generalize (2 * w) * 2 ^ n = z at hle hq0; omega
      have hq : out + (2 * w) * 2 ^ n ≤ 2 ^ 60 + 2 * w := by generalize (2 * w) * 2 ^ n = z at hle hq0 ⊢; omega
      have hq2 : out + w + (2 * w) * 2 ^ n ≤ 2 ^ 60 + 2 * w := by generalize (2 * w) * 2 ^ n = z at hle hq0 ⊢; omega
      rw [if_pos (decide_eq_true h), tmd 2 (by omega), tmd 2 (by omega), tdv 2 (by omega), tdv 2 (by omega), w64 (show -9223372036854775808 ≤ 2 * w by omega) (by omega), xor_step a b]
      have ha2 : a / 2 < 2 ^ n := by rw [Nat.pow_succ] at ha; omega
      have hb2 : b / 2 < 2 ^ n := by rw [Nat.pow_succ] at hb; omega
      have hal : a < 2 ^ 20 := Nat.lt_of_lt_of_le ha (Nat.pow_le_pow_right (by omega) hn)
      have hbl : b < 2 ^ 20 := Nat.lt_of_lt_of_le hb (Nat.pow_le_pow_right (by omega) hn)
      have hda : (a : Int) / 2 = ((a / 2 : Nat) : Int) := by omega
      have hdb : (b : Int) / 2 = ((b / 2 : Nat) : Int) := by omega
      rw [w64 (show -9223372036854775808 ≤ (a : Int) / 2 by omega) (by omega), w64 (show -9223372036854775808 ≤ (b : Int) / 2 by omega) (by omega), hda, hdb]
      by_cases h1 : a % 2 = b % 2
      · rw [if_pos (by omega), if_pos h1, r2_Sum_l0 n k (a / 2) (b / 2) out (2 * w) ha2 hb2 (by omega) ho (by omega) hq (by omega)]
        congr 1
        simp only [Nat.add_zero, Int.natCast_mul, Int.natCast_add]
        rw [Int.mul_comm 2 w, Int.mul_assoc]; rfl
      · rw [if_neg (by omega), if_neg h1, w64 (show -9223372036854775808 ≤ out + w by omega) (by omega), r2_Sum_l0 n k (a / 2) (b / 2) (out + w) (2 * w) ha2 hb2 (by omega) (by omega) (by omega) hq2 (by omega)]
        congr 1
        rw [Int.natCast_add, Int.natCast_mul, Int.mul_add, Int.mul_comm 2 w, Int.mul_assoc]
        have : w * ((1 : Nat) : Int) = w := by simp
        rw [this]
        have e2 : w * (((2 : Nat) : Int) * (((a / 2 ^^^ b / 2 : Nat)) : Int)) = w * (2 * (((a / 2 ^^^ b / 2 : Nat)) : Int)) := rfl
        rw [e2]; omega
    · rw [if_neg (by simp only [decide_eq_true_eq]; exact h)]
      have h1 : a = 0 := by omega
      have h2 : b = 0 := by omega
      subst h1; subst h2; simp
  termination_by n => n
theorem r2_Sum_nat (a b : Nat) (ha : a < 2 ^ 14) (hb : b < 2 ^ 14) {k : Nat} (hk : 29 < k) : casemateref02_Sum.f k (a : Int) (b : Int) = some ((a ^^^ b : Nat) : Int) := by
  unfold casemateref02_Sum.f
  rw [r2_Sum_l0 14 k a b 0 1 ha hb (by omega) (by omega) (by omega) (by decide) (by omega)]
  congr 1; omega
theorem r2_Mul_l0 : ∀ (n k a b out : Nat), a < 8192 → out < 8192 → b < 2 ^ n → b < 8192 → n + 30 < k → casemateref02_Mul.l0 k (a : Int) (b : Int) (out : Int) = some ((out ^^^ M n a b : Nat) : Int)
  | n, k, a, b, out, ha, ho, hb, hb', hk => by
    obtain ⟨k, rfl⟩ := fuel hk
    rw [casemateref02_Mul.l0]
    by_cases h0 : b = 0
    · subst h0; rw [if_neg (by simp), M_zero, Nat.xor_zero]
    · obtain ⟨n, rfl⟩ : ∃ m, n = m + 1 := ⟨n - 1, by cases n with | zero => simp at hb; omega | succ n => rfl⟩
      have hM : M (n + 1) a b = (if b % 2 = 1 then a else 0) ^^^ M n (W a) (b / 2) := rfl
      have hbn : b / 2 < 2 ^ n := by rw [Nat.pow_succ] at hb; omega
      have hdiv : ((b : Int) / 2) = ((b / 2 : Nat) : Int) := by omega
      have hdb : wrap64 (Int.tdiv (b : Int) 2) = ((b / 2 : Nat) : Int) := by rw [tdv 2 (by omega), hdiv, w64 (by omega) (by omega)]
      have h2a : wrap64 (2 * (a : Int)) = ((2 * a : Nat) : Int) := by rw [w64 (by omega) (by omega)]; omega
      have hS : casemateref02_Sum.f k ((2 * a : Nat) : Int) 8219 = some (((2 * a) ^^^ 8219 : Nat) : Int) := r2_Sum_nat (2 * a) 8219 (by omega) (by omega) (by omega)
      have go : ∀ o : Nat, o < 8192 → (if ((2 * a : Nat) : Int) ≥ 8192 then ((casemateref02_Sum.f k ((2 * a : Nat) : Int) 8219).bind fun t => casemateref02_Mul.l0 k t ((b / 2 : Nat) : Int) (o : Int)) else casemateref02_Mul.l0 k ((2 * a : Nat) : Int) ((b / 2 : Nat) : Int) (o : Int)) = some ((o ^^^ M n (W a) (b / 2) : Nat) : Int) := by
        intro o ho'
        have ih := r2_Mul_l0 n k (W a) (b / 2) o (W_lt ha) ho' hbn (by omega) (by omega)
        rw [← ih, hS, Option.bind_some]
        unfold W
        by_cases h : 8192 ≤ 2 * a
        · rw [if_pos (by omega), if_pos h]
        · rw [if_neg (by omega), if_neg h]
      rw [if_pos (by omega), hM, hdb, h2a, tmd 2 (by omega)]
      by_cases h1 : b % 2 = 1
      · rw [if_pos (by omega), if_pos h1, r2_Sum_nat out a (by omega) (by omega) (by omega), Option.bind_some, ← Nat.xor_assoc]
        exact go (out ^^^ a) (xor_lt ho ha)
      · rw [if_neg (by omega), if_neg h1, Nat.zero_xor]
        exact go out ho
  termination_by n => n
theorem r2_Mul (a b : GF) {k : Nat} (hk : 43 < k) : casemateref02_Mul.f k (gi a) (gi b) = some (gi (a * b)) := by
  unfold casemateref02_Mul.f
  have := r2_Mul_l0 13 k a.v b.v 0 a.lt (by omega) (by have := b.lt; simpa using this) b.lt hk
  rw [Nat.zero_xor] at this
  exact this
end Go.Proofs.Ytfclloehamgplaa.L

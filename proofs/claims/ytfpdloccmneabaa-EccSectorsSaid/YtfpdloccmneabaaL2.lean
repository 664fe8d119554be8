/- What the functions of layer 2 (gf) and of its reference come to, in plain Lean: the field's products, powers, inverses and logs. No condition but that numbers are elements, where it says so. -/
import Derived.Test.YtfpdloccmneabaaL1
import Derived.Test.YtfpdloccmneabaaPx0
import Derived.Test.YtfpdloccmneabaaPx6
import Derived.Test.YtfpdloccmneabaaPx20
import Derived.Test.YtfpdloccmneabaaMGf
set_option linter.unusedVariables false
set_option linter.unusedSimpArgs false
namespace Go.Proofs.Ytfpdloccmneabaa.L
open Go Go.RowKit Go.Proofs.Ytfpdloccmneabaa.P Go.Proofs.YtfpdloccmneabaaW.PrintWords Go.Proofs.YtfpdloccmneabaaW.PrintLast Go.Proofs.YtfpdloccmneabaaW.PrintMore Go.Proofs.CsM
/-- An element as a number; a number as an element. -/
def gi (a : GF) : Int := (a.v : Int)
theorem gi_lt (a : GF) : 0 ≤ gi a ∧ gi a < 8192 := by have := a.lt; unfold gi; omega
theorem gi_inj {a b : GF} : gi a = gi b ↔ a = b := ⟨fun h => GF.ext (by unfold gi at h; omega), fun h => by rw [h]⟩
def isEl (x : Int) : Prop := 0 ≤ x ∧ x < 8192
instance (x : Int) : Decidable (isEl x) := by unfold isEl; exact inferInstance
def gof (x : Int) : GF := if h : isEl x then ⟨x.toNat, by unfold isEl at h; omega⟩ else 0
theorem gi_gof {x : Int} (h : isEl x) : gi (gof x) = x := by
  unfold gof; rw [dif_pos h]; unfold isEl at h; unfold gi; show ((x.toNat : Nat) : Int) = x; omega
theorem gof_gi (a : GF) : gof (gi a) = a := by rw [← gi_inj, gi_gof (gi_lt a)]
theorem gi_zero : gi 0 = 0 := rfl
theorem gi_one : gi 1 = 1 := rfl
theorem gi_el (a : GF) : isEl (gi a) := gi_lt a
theorem gi_eq_zero {a : GF} : gi a = 0 ↔ a = 0 := by rw [← gi_zero, gi_inj]
theorem xor_gi (a b : GF) : Go.bits .xor .i64 (gi a) (gi b) = gi (a + b) := by
  have h1 := gi_lt a
  have h2 := gi_lt b
  rw [i64_xor h1.1 (by omega) h2.1 (by omega)]; rfl
theorem isEl_dec {x : Int} (h : x ≥ 0) : decide (x < 8192) = decide (isEl x) := by
  rw [Bool.eq_iff_iff, decide_eq_true_iff, decide_eq_true_iff]; unfold isEl; omega
theorem g_is (x : Int) : gf_is.f x = some (decide (isEl x)) := by
  unfold gf_is.f
  by_cases h : x ≥ 0
  · rw [if_pos h, isEl_dec h]
  · rw [if_neg h]; congr 1; exact (decide_eq_false (fun hx : isEl x => by unfold isEl at hx; omega)).symm
theorem g_mul_l0 : ∀ (n k a b out : Nat), a < 8192 → out < 8192 → b < 2 ^ n → b < 8192 → n < k → gf_mul.l0 k (a : Int) (b : Int) (out : Int) = some ((out ^^^ M n a b : Nat) : Int)
  | n, k, a, b, out, ha, ho, hb, hb', hk => by
    obtain ⟨k, rfl⟩ := fuel hk
    rw [gf_mul.l0]
    by_cases h0 : b = 0
    · subst h0; rw [if_pos (by simp), M_zero, Nat.xor_zero]
    · obtain ⟨n, rfl⟩ : ∃ m, n = m + 1 := ⟨n - 1, by cases n with | zero => simp at hb; omega | succ n => rfl⟩
      have hM : M (n + 1) a b = (if b % 2 = 1 then a else 0) ^^^ M n (W a) (b / 2) := rfl
      have hbn : b / 2 < 2 ^ n := by rw [Nat.pow_succ] at hb; omega
      have hdiv : ((b : Int) / 2) = ((b / 2 : Nat) : Int) := by omega
      have hand : Go.bits .and .i64 (b : Int) 1 = (b : Int) % 2 := i64_and1 (by omega) (by omega)
      have h2a : wrap64 ((a : Int) * 2) = ((2 * a : Nat) : Int) := by rw [w64 (by omega) (by omega)]; omega
      have hx : Go.bits .xor .i64 ((2 * a : Nat) : Int) 8219 = (((2 * a) ^^^ 8219 : Nat) : Int) := by
        rw [i64_xor (by omega) (by omega) (by omega) (by omega), Int.toNat_natCast]; rfl
      have go : ∀ o : Nat, o < 8192 → (if ((2 * a : Nat) : Int) ≥ 8192 then gf_mul.l0 k (((2 * a) ^^^ 8219 : Nat) : Int) ((b / 2 : Nat) : Int) (o : Int) else gf_mul.l0 k ((2 * a : Nat) : Int) ((b / 2 : Nat) : Int) (o : Int)) = some ((o ^^^ M n (W a) (b / 2) : Nat) : Int) := by
        intro o ho'
        have ih := g_mul_l0 n k (W a) (b / 2) o (W_lt ha) ho' hbn (by omega) (by omega)
        rw [← ih]
        unfold W
        by_cases h : 8192 ≤ 2 * a
        · rw [if_pos (by omega), if_pos h]
        · rw [if_neg (by omega), if_neg h]
      rw [if_neg (by omega), hand, hM, h2a, hx, hdiv]
      by_cases h1 : b % 2 = 1
      · rw [if_pos (by omega), if_pos h1, ← Nat.xor_assoc, i64_xor (by omega) (by omega) (by omega) (by omega), Int.toNat_natCast, Int.toNat_natCast]
        exact go (out ^^^ a) (xor_lt ho ha)
      · rw [if_neg (by omega), if_neg h1, Nat.zero_xor]
        exact go out ho
  termination_by n => n
theorem g_mul (a b : GF) {k : Nat} (hk : 13 < k) : gf_mul.f k (gi a) (gi b) = some (gi (a * b)) := by
  unfold gf_mul.f
  have := g_mul_l0 13 k a.v b.v 0 a.lt (by omega) (by have := b.lt; simpa using this) b.lt hk
  rw [Nat.zero_xor] at this
  exact this
theorem g_Mul (a b : GF) {k : Nat} (hk : 13 < k) : gf_Mul.f k (gi a) (gi b) = some (gi (a * b), 0) := by
  unfold gf_Mul.f
  rw [g_is, Option.bind_some, if_pos (decide_eq_true (gi_el a)), g_is, Option.bind_some, if_pos (decide_eq_true (gi_el b)), g_mul a b hk, Option.bind_some]
theorem g_Mul_no (x y : Int) (h : ¬ (isEl x ∧ isEl y)) (k : Nat) : gf_Mul.f k x y = some (0, 1) := by
  unfold gf_Mul.f
  rw [g_is, Option.bind_some]
  by_cases hx : isEl x
  · rw [if_pos (decide_eq_true hx), g_is, Option.bind_some, if_neg (by simp only [decide_eq_true_eq]; exact fun hy => h ⟨hx, hy⟩)]
  · rw [if_neg (by simp only [decide_eq_true_eq]; exact hx)]
theorem pw_half (a : GF) (e : Nat) : pw a e = pw (a * a) (e / 2) * (if e % 2 = 1 then a else 1) := by
  have h : e = 2 * (e / 2) + e % 2 := by omega
  rw [← pw_two, ← pw_mul]
  rcases Nat.mod_two_eq_zero_or_one e with p | p
  · rw [p, if_neg (by omega), R2.mul_one]; congr 1; omega
  · rw [p, if_pos rfl, ← pw_succ]; congr 1; omega
theorem g_pow_l0 : ∀ (n k e : Nat) (a out : GF), e < 2 ^ n → e < 2 ^ 60 → n + 14 < k → gf_pow.l0 k (gi a) (e : Int) (gi out) = some (gi (out * pw a e))
  | n, k, e, a, out, he, he', hk => by
    obtain ⟨k, rfl⟩ := fuel hk
    rw [gf_pow.l0]
    by_cases h0 : e = 0
    · subst h0; rw [if_neg (by simp), pw_zero, R2.mul_one]
    · obtain ⟨n, rfl⟩ : ∃ m, n = m + 1 := ⟨n - 1, by cases n with | zero => simp at he; omega | succ n => rfl⟩
      have hen : e / 2 < 2 ^ n := by rw [Nat.pow_succ] at he; omega
      have hdiv : ((e : Int) / 2) = ((e / 2 : Nat) : Int) := by omega
      have hand : Go.bits .and .i64 (e : Int) 1 = (e : Int) % 2 := i64_and1 (by omega) (by omega)
      rw [if_pos (by omega), hand, pw_half a e]
      by_cases h1 : e % 2 = 1
      · rw [if_pos (by omega), if_pos h1, g_mul out a (by omega), Option.bind_some, g_mul a a (by omega), Option.bind_some, hdiv, g_pow_l0 n k (e / 2) (a * a) (out * a) hen (by omega) (by omega)]
        congr 2; ac_rfl
      · rw [if_neg (by omega), if_neg h1, g_mul a a (by omega), Option.bind_some, hdiv, g_pow_l0 n k (e / 2) (a * a) out hen (by omega) (by omega), R2.mul_one]
  termination_by n => n
theorem g_pow (a : GF) (e : Nat) (he : e < 2 ^ 14) {k : Nat} (hk : 28 < k) : gf_pow.f k (gi a) (e : Int) = some (gi (pw a e)) := by
  unfold gf_pow.f
  have := g_pow_l0 14 k e a 1 he (Nat.lt_of_lt_of_le he (Nat.pow_le_pow_right (by omega) (by omega))) (by omega)
  rw [r_one_mul] at this
  exact this
theorem g_Inv (a : GF) (h : a ≠ 0) {k : Nat} (hk : 28 < k) : gf_Inv.f k (gi a) = some (gi (ginv a), 0) := by
  unfold gf_Inv.f
  rw [g_is, Option.bind_some, if_pos (decide_eq_true (gi_el a)), if_neg (fun e => h (gi_eq_zero.1 e)), show (8190 : Int) = ((8190 : Nat) : Int) from rfl, g_pow a 8190 (by omega) hk, Option.bind_some]; rfl
/-- A number's place in the ring of powers. -/
def ex (n : Int) : Nat := (n % 8191).toNat
theorem ex_lt (n : Int) : ex n < 8191 := by unfold ex; omega
theorem ex_cast (n : Int) : ((ex n : Nat) : Int) = n % 8191 := by unfold ex; omega
theorem ex_nat (n : Nat) : ex (n : Int) = n % 8191 := by unfold ex; omega
theorem tmod_ex (n : Int) : (if Int.tmod n 8191 < 0 then Int.tmod n 8191 + 8191 else Int.tmod n 8191) = ((ex n : Nat) : Int) ∧ -8191 < Int.tmod n 8191 ∧ Int.tmod n 8191 < 8191 := by
  rw [ex_cast, Int.tmod_eq_emod]
  by_cases h : 0 ≤ n ∨ (8191 : Int) ∣ n
  · rw [if_pos h]
    have h1 : n % 8191 - ((0 : Nat) : Int) = n % 8191 := by omega
    rw [h1]
    split
    · omega
    · omega
  · rw [if_neg h]
    have h2 : ¬ (8191 : Int) ∣ n := fun hd => h (.inr hd)
    have h3 : n % 8191 ≠ 0 := fun hz => h2 (Int.dvd_of_emod_eq_zero hz)
    have h4 : ((Int.natAbs 8191 : Nat) : Int) = 8191 := rfl
    rw [h4]
    split
    · omega
    · omega
theorem pw_ex_add {a : GF} (h : a ≠ 0) (m n : Int) : pw a (ex m) * pw a (ex n) = pw a (ex (m + n)) := by
  rw [← pw_add, ← pw_mod h (ex m + ex n)]
  congr 1
  unfold ex; omega
theorem g_around (n : Int) (h0 : -9223372036854775808 ≤ n) (h1 : n ≤ 9223372036854775807) : gf_around.f n = some ((ex n : Nat) : Int) := by
  unfold gf_around.f
  obtain ⟨t1, t2, t3⟩ := tmod_ex n
  by_cases h : Int.tmod n 8191 < 0
  · rw [if_pos h] at t1 ⊢; rw [w64 (by omega) (by omega), t1]
  · rw [if_neg h] at t1 ⊢; rw [t1]
theorem g_Exp (n : Int) (h0 : -9223372036854775808 ≤ n) (h1 : n ≤ 9223372036854775807) {k : Nat} (hk : 28 < k) : gf_Exp.f k n = some (gi (pw w (ex n))) := by
  unfold gf_Exp.f
  have := ex_lt n
  rw [g_around n h0 h1, Option.bind_some, show (2 : Int) = gi w from rfl, g_pow w (ex n) (by omega) hk, Option.bind_some]
end Go.Proofs.Ytfpdloccmneabaa.L

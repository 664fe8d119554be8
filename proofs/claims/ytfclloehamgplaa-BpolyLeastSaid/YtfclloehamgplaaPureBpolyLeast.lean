/- The pure statement of the law BpolyLeast: what the printed function of the law comes to is true at every input. No condition. -/
import Derived.Test.YtfclloehamgplaaBpoly
import Derived.Test.YtfclloehamgplaaPx10
set_option linter.unusedVariables false
set_option linter.unusedSimpArgs false
namespace Go.Proofs.Ytfclloehamgplaa.Pure
open Go Go.RowKit Go.Proofs.Ytfclloehamgplaa.P Go.Proofs.YtfclloehamgplaaW.PrintWords Go.Proofs.YtfclloehamgplaaW.PrintLast Go.Proofs.YtfclloehamgplaaW.PrintMore Go.Proofs.CsM Go.Proofs.Ytfclloehamgplaa.L
theorem BpolyLeast : casematelaw04_BpolyLeast.Pure := by
  intro n b hn hb
  have hT : Evt fun k => casematelaw04_BpolyLeast.j0 k n b true = some true := Evt.of 0 fun k hk => by
    obtain ⟨k, rfl⟩ := fuel hk
    rw [casematelaw04_BpolyLeast.j0, if_pos rfl]
  refine Evt.get ?_
  by_cases h1 : b < 1
  · refine hT.mono fun k h => ?_
    unfold casematelaw04_BpolyLeast.f
    rw [if_pos h1]; exact h
  by_cases h2 : b ≥ 8192
  · refine hT.mono fun k h => ?_
    unfold casematelaw04_BpolyLeast.f
    rw [if_neg h1, decide_eq_true h2]; exact h
  obtain ⟨c, rfl⟩ := Int.eq_ofNat_of_zero_le (show 0 ≤ b by omega)
  have e1 : (Int.tmod (c : Int) 256) % 256 = ((c % 256 : Nat) : Int) := by rw [tmd 256 (by omega)]; omega
  have e2 : wrap64 (Int.tdiv (c : Int) 256) % 256 = ((c / 256 : Nat) : Int) := by rw [tdv 256 (by omega), w64 (by omega) (by omega)]; omega
  have hby : Byt [((c % 256 : Nat) : Int), ((c / 256 : Nat) : Int)] := Byt.cons (by clear e1 e2; omega) (Byt.cons (by clear e1 e2; omega) Byt.nil)
  have hbit : ∀ i, bitAt [((c % 256 : Nat) : Int), ((c / 256 : Nat) : Int)] i = c.testBit i := fun i => by
    unfold bitAt
    by_cases i0 : i / 8 = 0
    · rw [i0]
      show Nat.testBit ((c % 2 ^ 8 : Nat) : Int).toNat (i % 8) = _
      rw [Int.toNat_natCast, Nat.testBit_mod_two_pow, decide_eq_true (by omega), Bool.true_and]; congr 1; omega
    · by_cases i1 : i / 8 = 1
      · rw [i1]
        show Nat.testBit ((c / 2 ^ 8 : Nat) : Int).toNat (i % 8) = _
        rw [Int.toNat_natCast, Nat.testBit_div_two_pow]; congr 1; omega
      · obtain ⟨q, hq⟩ : ∃ q, i / 8 = q + 2 := ⟨i / 8 - 2, by omega⟩
        rw [hq]
        show Nat.testBit 0 (i % 8) = _
        rw [Nat.zero_testBit, Nat.testBit_lt_two_pow (Nat.lt_of_lt_of_le (show c < 2 ^ 13 by omega) (Nat.pow_le_pow_right (by omega) (by omega)))]
  have hbd : Bd (toB [((c % 256 : Nat) : Int), ((c / 256 : Nat) : Int)]) 13 := fun i hi => by
    rw [toB_c, hbit, Nat.testBit_lt_two_pow (Nat.lt_of_lt_of_le (show c < 2 ^ 13 by omega) (Nat.pow_le_pow_right (by omega) hi))]; rfl
  have hne : toB [((c % 256 : Nat) : Int), ((c / 256 : Nat) : Int)] ≠ 0 := fun h => by
    have : c = 0 := Nat.eq_of_testBit_eq fun i => by
      rw [← hbit, ← toB_c, h, Nat.zero_testBit]; rfl
    omega
  have hx0 : pw w (ex n) ≠ 0 := pw_ne w_ne _
  have hE : Evt fun k => casemateref02_Exp.f k n = some (gi (pw w (ex n))) := Evt.of 58 fun k hk => r2_Exp n hk
  generalize pw w (ex n) = x at hx0 hE
  have hv := b_Value hby (by simp) x
  have hj : Evt fun k => casematelaw04_BpolyLeast.j0 k n (c : Int) false = some true := by
    refine (hE.and (hv.and awake)).step fun k ⟨g1, g2, g3⟩ => ?_
    rw [casematelaw04_BpolyLeast.j0, if_neg (by simp), g1, Option.bind_some, e1, e2, g2, Option.bind_some, g3, Option.bind_some, if_pos rfl, if_pos rfl]
    by_cases hx1 : x = 1
    · subst hx1; rw [if_pos (show gi 1 = 1 from rfl)]
    · rw [if_neg (fun e => hx1 (gi_inj.1 (e.trans gi_one.symm)))]
      have : vb (toB [((c % 256 : Nat) : Int), ((c / 256 : Nat) : Int)]) (8 * [((c % 256 : Nat) : Int), ((c / 256 : Nat) : Int)].length) x ≠ 0 := fun h => hne (least hx0 hx1 hbd (by rw [vb_any hbd (toB_bd _)]; exact h))
      rw [bne_iff_ne.2 (fun h => this (gi_eq_zero.1 h))]
  refine hj.mono fun k h => ?_
  unfold casematelaw04_BpolyLeast.f
  rw [if_neg h1, decide_eq_false h2]; exact h
end Go.Proofs.Ytfclloehamgplaa.Pure

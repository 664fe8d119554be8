/- The pure statement of the law BpolyGenerators: what the printed function of the law comes to is true at every input. No condition. -/
import Derived.Test.YtfclloehamgplaaBpoly
import Derived.Test.YtfclloehamgplaaPx8
set_option linter.unusedVariables false
set_option linter.unusedSimpArgs false
namespace Go.Proofs.Ytfclloehamgplaa.Pure
open Go Go.RowKit Go.Proofs.Ytfclloehamgplaa.P Go.Proofs.YtfclloehamgplaaW.PrintWords Go.Proofs.YtfclloehamgplaaW.PrintLast Go.Proofs.YtfclloehamgplaaW.PrintMore Go.Proofs.CsM Go.Proofs.Ytfclloehamgplaa.L
set_option maxHeartbeats 1000000 in
theorem BpolyGenerators : casematelaw04_BpolyGenerators.Pure := by
  intro t0 ht0
  refine Evt.get ?_
  by_cases hr : t0 < 1 ∨ t0 > 8
  · refine ((b_Generator_no hr).and (awake.step (q := fun k => casematelaw04_BpolyGenerators.j0 k t0 [] 1 true = some true) fun k h2 => by
      rw [casematelaw04_BpolyGenerators.j0, if_pos rfl, h2, Option.bind_some, if_pos rfl, if_pos rfl]; rfl)).mono fun k ⟨h1, h2⟩ => ?_
    unfold casematelaw04_BpolyGenerators.f
    rw [h1, Option.bind_some]
    show (if t0 < 1 then casematelaw04_BpolyGenerators.j0 k t0 [] 1 true else casematelaw04_BpolyGenerators.j0 k t0 [] 1 (decide (t0 > 8))) = _
    by_cases h3 : t0 < 1
    · rw [if_pos h3]; exact h2
    · rw [if_neg h3, decide_eq_true (by omega)]; exact h2
  · obtain ⟨t, rfl⟩ := Int.eq_ofNat_of_zero_le (show 0 ≤ t0 by omega)
    have ht1 : 1 ≤ t := by omega
    have ht8 : t ≤ 8 := by omega
    clear hr ht0
    obtain ⟨r, r1, r2⟩ := b_Generator ht1 ht8
    have hlen := r2.len (gen_bd ht8)
    have hlb := lbl r
    have hL1 : ∀ d i x, i + d = t → Bt x → toL x = gen i → x.length ≤ 1 + 100 * i → Evt fun k => casematelaw04_BpolyGenerators.l1 k (t : Int) r x ((2 * i + 1 : Nat) : Int) = some true := by
      intro d
      induction d with
      | zero =>
        intro i x hi hx hg hl
        obtain rfl : i = t := by omega
        obtain ⟨y, y1, y2⟩ := r4_Bytes hx (by omega)
        have e : r = y := r2.eq y2 hg.symm
        subst e
        refine (awake.and y1).step fun k ⟨h1, h2⟩ => ?_
        rw [casematelaw04_BpolyGenerators.l1, show wrap64 (2 * (i : Int)) = 2 * (i : Int) from w64 (by omega) (by omega), if_neg (by omega), h1, Option.bind_some, if_pos rfl, h2, Option.bind_some, str_beq r2.byt r2.byt, decide_eq_true rfl]
      | succ d ih =>
        intro i x hi hx hg hl
        obtain ⟨m, m1, m2⟩ := b_Minimal ((2 * i + 1 : Nat) : Int) (by omega) (by omega)
        rw [ex_nat, Nat.mod_eq_of_lt (by omega)] at m2
        have hml := m2.len (mp_bd _)
        have hmd : mdeg (pw w (2 * i + 1)) ≤ 13 := by unfold mdeg; split <;> omega
        have hlm := lbl m
        obtain ⟨y, y1, y2, y3, y4⟩ := r4_Mul hx (bl_bits m).1 (by omega) (by omega)
        have h5 := ih (i + 1) y (by omega) y2 (by rw [y3, hg, (bl_bits m).2, m2.is]; rfl) (by omega)
        refine (m1.and ((all_ m2.byt (by omega)).and (y1.and h5))).step fun k ⟨g1, g2, g3, g4⟩ => ?_
        have e1 : wrap64 (2 * (t : Int)) = 2 * (t : Int) := w64 (by omega) (by omega)
        have e2 : wrap64 (((2 * i + 1 : Nat) : Int) + 2) = ((2 * (i + 1) + 1 : Nat) : Int) := by rw [w64 (by clear e1; omega) (by clear e1; omega)]; clear e1; omega
        rw [casematelaw04_BpolyGenerators.l1, e1, e2]
        clear e1 e2
        rw [if_pos (by omega), g1, Option.bind_some, g2, Option.bind_some, g3, Option.bind_some, g4]
    have hL0 : ∀ d i, i + d = 2 * t + 1 → 1 ≤ i → Evt fun k => casematelaw04_BpolyGenerators.l0 k (t : Int) r (bl r) (i : Int) = some true := by
      intro d
      induction d with
      | zero =>
        intro i hi h1
        have h2 := hL1 t 0 [1] (by omega) Bt.one.1 Bt.one.2 (by simp)
        refine h2.step fun k h => ?_
        rw [casematelaw04_BpolyGenerators.l0, show wrap64 (2 * (t : Int)) = 2 * (t : Int) from w64 (by omega) (by omega), if_neg (by omega)]
        exact h
      | succ d ih =>
        intro i hi h1
        have hv := r4_Value (bl_bits r).1 (by omega) (pw w i)
        have htop : 13 * t < 8 * r.length := Nat.lt_of_not_le fun e => by
          have h3 := toB_bd r (13 * t) e
          rw [r2.is, gen_top ht8] at h3; exact absurd h3 (by decide)
        rw [(bl_bits r).2, r2.is, lbl, gen_root ht8 (gl_mem ht8 h1 (by omega)) htop] at hv
        have hE : Evt fun k => casemateref02_Exp.f k (i : Int) = some (gi (pw w i)) := Evt.of 58 fun k hk => by
          rw [r2_Exp (i : Int) hk, ex_nat, Nat.mod_eq_of_lt (by omega)]
        refine (hE.and (hv.and (ih (i + 1) (by omega) (by omega)))).step fun k ⟨g1, g2, g3⟩ => ?_
        have e1 : wrap64 (2 * (t : Int)) = 2 * (t : Int) := w64 (by omega) (by omega)
        have e2 : wrap64 ((i : Int) + 1) = ((i + 1 : Nat) : Int) := cst_add (b := 1) (by clear e1; omega)
        rw [casematelaw04_BpolyGenerators.l0, e1, e2]
        clear e1 e2
        rw [if_pos (by omega), g1, Option.bind_some, g2, Option.bind_some, if_pos gi_zero, g3]
    have hdeg := degL (bl_bits r).1 (by omega)
    rw [lsz_top (d := 13 * t) (by rw [(bl_bits r).2, r2.is]; exact gen_top ht8) (by rw [(bl_bits r).2, r2.is]; exact gen_bd ht8)] at hdeg
    have hj1 : Evt fun k => casematelaw04_BpolyGenerators.j1 k (t : Int) r false = some true := by
      refine ((all_ r2.byt (by omega)).and (hdeg.and (hL0 (2 * t) 1 (by omega) (by omega)))).step fun k ⟨g1, g2, g3⟩ => ?_
      rw [casematelaw04_BpolyGenerators.j1, if_neg (by simp), g1, Option.bind_some, g2, Option.bind_some, show wrap64 (13 * (t : Int)) = 13 * (t : Int) from w64 (by omega) (by omega), if_pos (by omega)]
      exact g3
    have hj0 : Evt fun k => casematelaw04_BpolyGenerators.j0 k (t : Int) r 0 false = some true := hj1.step fun k h => by
      rw [casematelaw04_BpolyGenerators.j0, if_neg (by simp), if_pos rfl, decide_eq_false (by omega)]
      exact h
    refine (r1.and hj0).mono fun k ⟨g1, g2⟩ => ?_
    unfold casematelaw04_BpolyGenerators.f
    rw [g1, Option.bind_some, if_neg (by omega), decide_eq_false (by omega)]
    exact g2
end Go.Proofs.Ytfclloehamgplaa.Pure

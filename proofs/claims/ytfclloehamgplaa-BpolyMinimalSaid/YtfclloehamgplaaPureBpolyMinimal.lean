/- The pure statement of the law BpolyMinimal: what the printed function of the law comes to is true at every input. No condition. -/
import Derived.Test.YtfclloehamgplaaBpoly
import Derived.Test.YtfclloehamgplaaPx6
set_option linter.unusedVariables false
set_option linter.unusedSimpArgs false
namespace Go.Proofs.Ytfclloehamgplaa.Pure
open Go Go.RowKit Go.Proofs.Ytfclloehamgplaa.P Go.Proofs.YtfclloehamgplaaW.PrintWords Go.Proofs.YtfclloehamgplaaW.PrintLast Go.Proofs.YtfclloehamgplaaW.PrintMore Go.Proofs.CsM Go.Proofs.Ytfclloehamgplaa.L
theorem BpolyMinimal : casematelaw04_BpolyMinimal.Pure := by
  intro n hn
  have hr := wf64 hn
  obtain ⟨r, r1, r2⟩ := b_Minimal n hr.1 hr.2
  have ht : Int.tmod n 8191 = n - 8191 * Int.tdiv n 8191 := Int.tmod_def n 8191
  obtain ⟨_, t1, t2⟩ := tmod_ex n
  have ew : wrap64 (2 * Int.tmod n 8191) = 2 * Int.tmod n 8191 := w64 (by omega) (by omega)
  obtain ⟨s, s1, s2⟩ := b_Minimal (2 * Int.tmod n 8191) (by clear ew; omega) (by clear ew; omega)
  have hsq : pw w (ex (2 * Int.tmod n 8191)) = pw w (ex n) * pw w (ex n) := by
    rw [pw_ex_add w_ne]
    congr 1
    unfold ex
    congr 1
    clear ew
    omega
  rw [hsq, mp_sq] at s2
  have e : s = r := s2.eq r2 rfl
  subst e
  have hx0 : pw w (ex n) ≠ 0 := pw_ne w_ne _
  have hE : Evt fun k => casemateref02_Exp.f k n = some (gi (pw w (ex n))) := Evt.of 58 fun k hk => r2_Exp n hk
  generalize pw w (ex n) = x at r2 hx0 hE
  have hlen := r2.length (mp_top x) (mp_bd x)
  have hmd : mdeg x = 1 ∨ mdeg x = 13 := by unfold mdeg; split <;> omega
  have hl4 : s.length ≤ 2 := by omega
  have hdeg := degL (bl_bits s).1 (by rw [lbl]; omega)
  rw [lsz_top (d := mdeg x) (by rw [(bl_bits s).2, r2.is]; exact mp_top x) (by rw [(bl_bits s).2, r2.is]; exact mp_bd x)] at hdeg
  have hval := r4_Value (bl_bits s).1 (by rw [lbl]; omega) x
  rw [(bl_bits s).2, r2.is, lbl, mp_root x (by omega)] at hval
  have hj : Evt fun k => casematelaw04_BpolyMinimal.j0 k n s (gi x) (mdeg x : Int) = some true := by
    refine (s1.and (awake.and ((all_ r2.byt (by omega)).and (hdeg.and hval)))).step fun k ⟨h1, h2, h3, h4, h5⟩ => ?_
    rw [casematelaw04_BpolyMinimal.j0, ew, h1, Option.bind_some, h2, Option.bind_some, if_pos rfl, h3, Option.bind_some, h4, Option.bind_some]
    clear ew
    rw [if_pos (by omega), if_pos (by rcases hmd with h | h <;> rw [hlen, h] <;> decide +kernel), Option.bind_some, h5, Option.bind_some, if_pos gi_zero, str_beq r2.byt r2.byt, decide_eq_true rfl]
  refine Evt.get ((r1.and (hE.and hj)).mono fun k ⟨h1, h2, h3⟩ => ?_)
  clear ew
  unfold casematelaw04_BpolyMinimal.f
  rw [h1, Option.bind_some, if_neg (by omega), h2, Option.bind_some]
  by_cases hx1 : x = 1
  · subst hx1
    rw [if_pos (show gi 1 = 1 from rfl)]
    exact h3
  · rw [if_neg (fun e => hx1 (gi_inj.1 (e.trans gi_one.symm)))]
    have : (mdeg x : Int) = 13 := by unfold mdeg; rw [if_neg hx1]; rfl
    rw [this] at h3
    exact h3
end Go.Proofs.Ytfclloehamgplaa.Pure

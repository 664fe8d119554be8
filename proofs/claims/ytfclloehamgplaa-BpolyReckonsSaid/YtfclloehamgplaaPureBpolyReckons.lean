/- The pure statement of the law BpolyReckons: what the printed function of the law comes to is true at every input. No condition. -/
import Derived.Test.YtfclloehamgplaaBpoly
import Derived.Test.YtfclloehamgplaaPx12
import Derived.Test.YtfclloehamgplaaPx5
import Derived.Test.YtfclloehamgplaaPx9
set_option linter.unusedVariables false
set_option linter.unusedSimpArgs false
namespace Go.Proofs.Ytfclloehamgplaa.Pure
open Go Go.RowKit Go.Proofs.Ytfclloehamgplaa.P Go.Proofs.YtfclloehamgplaaW.PrintWords Go.Proofs.YtfclloehamgplaaW.PrintLast Go.Proofs.YtfclloehamgplaaW.PrintMore Go.Proofs.CsM Go.Proofs.Ytfclloehamgplaa.L
set_option maxHeartbeats 2000000 in
theorem BpolyReckons : casematelaw04_BpolyReckons.Pure := by
  intro p q x hp1 hp2 hp3 hq1 hq2 hq3 hx
  have bp := byt_wf hp3
  have bq := byt_wf hq3
  refine Evt.get ?_
  by_cases hs : p.length ≤ 60 ∧ q.length ≤ 60
  · obtain ⟨np, nq⟩ := hs
    obtain ⟨s, s1, s2⟩ := b_Add bp bq (by omega) (by omega)
    obtain ⟨m, m1, m2⟩ := b_Mul bp bq (by omega) (by omega)
    obtain ⟨t, t1, t2, t3, t4⟩ := r4_Add (bl_bits p).1 (bl_bits q).1 (by rw [lbl, lbl]; omega)
    obtain ⟨tb, b1, b2⟩ := r4_Bytes t2 (by rw [t4, lbl, lbl]; omega)
    obtain ⟨u, u1, u2, u3, u4⟩ := r4_Mul (bl_bits p).1 (bl_bits q).1 (by rw [lbl]; omega) (by rw [lbl]; omega)
    obtain ⟨ub, c1, c2⟩ := r4_Bytes u2 (by rw [u4, lbl, lbl]; omega)
    have e1 : s = tb := s2.eq b2 (by rw [t3, (bl_bits p).2, (bl_bits q).2])
    have e2 : m = ub := m2.eq c2 (by rw [u3, (bl_bits p).2, (bl_bits q).2])
    subst e1; subst e2
    have dq := degL (bl_bits q).1 (by rw [lbl]; omega)
    rw [deg_bl] at dq
    have hMod : ∃ r e, (Evt fun k => bpoly_Mod.f k p q = some (r, e)) ∧ Evt fun k => casematelaw04_BpolyReckons.j1 k r e (bl p) (bl q) false = some true := by
      by_cases h0 : toB q = 0
      · refine ⟨[], 20, b_Mod_0 bq (by omega) h0, (dq.and awake).step fun k ⟨h1, h2⟩ => ?_⟩
        rw [casematelaw04_BpolyReckons.j1, if_neg (by simp), h1, Option.bind_some, bsz_0 h0, if_pos (by decide), h2, Option.bind_some, if_pos rfl, if_pos rfl]; rfl
      · obtain ⟨d, d1, d2, d3⟩ := bsz_pos h0
        obtain ⟨r, f, r1, r2, r3⟩ := b_Mod bp bq (by omega) (by omega) d2 d3
        obtain ⟨v, v1, v2, v3, v4⟩ := r4_Mod (bl_bits p).1 (bl_bits q).1 (by rw [lbl]; omega) (by rw [lbl]; omega) (d := d) (by rw [(bl_bits q).2]; exact d2) (by rw [(bl_bits q).2]; exact d3)
        rw [(bl_bits p).2, (bl_bits q).2] at v3
        obtain ⟨vb_, w1, w2⟩ := r4_Bytes v2 (by rw [v4, lbl]; omega)
        have e3 : r = vb_ := r2.eq w2 (Rest.unique d2 d3 r3 v3)
        subst e3
        refine ⟨r, 0, r1, (dq.and (awake.and (v1.and w1))).step fun k ⟨h1, h2, h3, h4⟩ => ?_⟩
        rw [casematelaw04_BpolyReckons.j1, if_neg (by simp), h1, Option.bind_some, if_neg (by omega), h2, Option.bind_some, if_pos rfl, if_pos rfl, h3, Option.bind_some, h4, Option.bind_some, str_beq r2.byt r2.byt, decide_eq_true rfl]
    obtain ⟨r, e, hm, hj⟩ := hMod
    have hVal : ∃ v e', (Evt fun k => bpoly_Value.f k p x = some (v, e')) ∧ Evt fun k => casematelaw04_BpolyReckons.j0 k x r e v e' (bl p) (bl q) false = some true := by
      by_cases hi : isEl x
      · obtain ⟨y, rfl⟩ := exists_el hi
        have hv := r4_Value (bl_bits p).1 (by rw [lbl]; omega) y
        rw [(bl_bits p).2, lbl] at hv
        refine ⟨_, _, b_Value bp (by omega) y, (hv.and hj).step fun k ⟨h1, h2⟩ => ?_⟩
        rw [casematelaw04_BpolyReckons.j0, if_neg (by simp), r2_Is, Option.bind_some, decide_eq_true hi, if_neg (by decide), if_pos rfl, h1, Option.bind_some]
        rw [show (gi (vb (toB p) (8 * p.length) y) != gi (vb (toB p) (8 * p.length) y)) = false from by simp]
        exact h2
      · refine ⟨_, _, b_Value_no hi, hj.step fun k h2 => ?_⟩
        rw [casematelaw04_BpolyReckons.j0, if_neg (by simp), r2_Is, Option.bind_some, decide_eq_false hi, if_neg (by decide), if_neg (by decide), if_pos rfl, if_pos rfl]
        exact h2
    obtain ⟨v, e', hv, hj0⟩ := hVal
    have dp := degL (bl_bits p).1 (by rw [lbl]; omega)
    rw [deg_bl] at dp
    refine ((s1.and (m1.and (hm.and hv))).and (((all_ bp (by omega)).and (all_ bq (by omega))).and (((degB bp (by omega)).and dp).and ((t1.and (b1.and (u1.and c1))).and hj0)))).mono fun k ⟨⟨g1, g2, g3, g4⟩, ⟨g5, g6⟩, ⟨g7, g8⟩, ⟨g9, g10, g11, g12⟩, g13⟩ => ?_
    unfold casematelaw04_BpolyReckons.f
    rw [l_small, Option.bind_some, if_pos (decide_eq_true ⟨np, nq⟩), Option.bind_some, if_pos (by simp; omega), Option.bind_some, List.nil_append, g1, Option.bind_some, g2, Option.bind_some, g3, Option.bind_some, g4, Option.bind_some, g5, Option.bind_some, g6, Option.bind_some, if_pos rfl, g7, Option.bind_some, g8, Option.bind_some, if_pos rfl, g9, Option.bind_some, g10, Option.bind_some, if_pos rfl, g11, Option.bind_some, g12, Option.bind_some]
    rw [show ((strOfNums m).toList != (strOfNums m).toList) = false from by simp]
    exact g13
  · refine Evt.all fun k => ?_
    unfold casematelaw04_BpolyReckons.f
    rw [l_small, Option.bind_some, if_neg (by simpa using hs)]
end Go.Proofs.Ytfclloehamgplaa.Pure

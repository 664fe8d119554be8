/- The pure statement of the law BpolyLaws: what the printed function of the law comes to is true at every input. No condition. -/
import Derived.Test.YtfclloehamgplaaBpoly
import Derived.Test.YtfclloehamgplaaPx7
import Derived.Test.YtfclloehamgplaaPx4
set_option linter.unusedVariables false
set_option linter.unusedSimpArgs false
namespace Go.Proofs.Ytfclloehamgplaa.Pure
open Go Go.RowKit Go.Proofs.Ytfclloehamgplaa.P Go.Proofs.YtfclloehamgplaaW.PrintWords Go.Proofs.YtfclloehamgplaaW.PrintLast Go.Proofs.YtfclloehamgplaaW.PrintMore Go.Proofs.CsM Go.Proofs.Ytfclloehamgplaa.L
set_option maxHeartbeats 2000000 in
theorem BpolyLaws : casematelaw04_BpolyLaws.Pure := by
  intro p q r x hp1 hp2 hp3 hq1 hq2 hq3 hr1 hr2 hr3 hx
  have bp := byt_wf hp3
  have bq := byt_wf hq3
  have br := byt_wf hr3
  refine Evt.get ?_
  have hT : Evt fun k => casematelaw04_BpolyLaws.j0 k p q r x true = some true := Evt.of 0 fun k hk => by
    obtain ⟨k, rfl⟩ := fuel hk
    rw [casematelaw04_BpolyLaws.j0, if_pos rfl]
  by_cases hs : p.length ≤ 60 ∧ q.length ≤ 60
  · by_cases hr : (r.length : Int) > 60
    · refine hT.mono fun k h => ?_
      unfold casematelaw04_BpolyLaws.f
      rw [l_small, Option.bind_some, if_pos (decide_eq_true hs), if_pos hr]
      exact h
    · by_cases hi : isEl x
      · obtain ⟨y, rfl⟩ := exists_el hi
        obtain ⟨np, nq⟩ := hs
        have hpb : Bd (toB p) 480 := (toB_bd p).mono (by omega)
        have hqb : Bd (toB q) 480 := (toB_bd q).mono (by omega)
        have hrb : Bd (toB r) 480 := (toB_bd r).mono (by omega)
        obtain ⟨m, m1, m2⟩ := b_Mul bp bq (by omega) (by omega)
        obtain ⟨m', n1, n2⟩ := b_Mul bq bp (by omega) (by omega)
        have e1 : m' = m := n2.eq m2 (R2.mul_comm _ _)
        subst e1
        have hml := m2.len (Bd.mul' hpb hqb)
        obtain ⟨s388, a1, a2⟩ := b_Mul m2.byt br (by omega) (by omega)
        obtain ⟨s391, b1, b2⟩ := b_Mul bq br (by omega) (by omega)
        have hbl := b2.len (Bd.mul' hqb hrb)
        obtain ⟨s394, c1, c2⟩ := b_Mul bp b2.byt (by omega) (by omega)
        have e2 : s394 = s388 := c2.eq a2 (by rw [m2.is, b2.is, R2.mul_assoc])
        subst e2
        obtain ⟨s397, d1, d2⟩ := b_Add bq br (by omega) (by omega)
        have hdl := d2.len (hqb.add hrb)
        obtain ⟨s400, f1, f2⟩ := b_Mul bp d2.byt (by omega) (by omega)
        obtain ⟨s403, g1, g2⟩ := b_Mul bp br (by omega) (by omega)
        have hgl := g2.len (Bd.mul' hpb hrb)
        obtain ⟨s406, h1, h2⟩ := b_Add m2.byt g2.byt (by omega) (by omega)
        have e3 : s406 = s400 := h2.eq f2 (by rw [m2.is, g2.is, d2.is, R2.mul_add])
        subst e3
        have v1 := b_Value bp (by omega) y
        have v2 := b_Value bq (by omega) y
        have v3 := b_Value m2.byt (by omega) y
        rw [vb_any (toB_bd p) hpb] at v1
        rw [vb_any (toB_bd q) hqb] at v2
        rw [m2.is, vb_any (n := 8 * m'.length) (m := 480 + 480) (by rw [← m2.is]; exact toB_bd m') ((Bd.mul' hpb hqb).mono (by omega)), vb_mul hpb hqb] at v3
        have hM : Evt fun k => casemateref02_Mul.f k (gi (vb (toB p) 480 y)) (gi (vb (toB q) 480 y)) = some (gi (vb (toB p) 480 y * vb (toB q) 480 y)) := Evt.of 43 fun k hk => r2_Mul _ _ hk
        have hj1 : Evt fun k => casematelaw04_BpolyLaws.j1 k p q r false = some true := by
          have hdr := degB br (by omega)
          by_cases h0 : toB r = 0
          · refine (hdr.and awake).step fun k ⟨q1, q2⟩ => ?_
            rw [casematelaw04_BpolyLaws.j1, if_neg (by simp), q1, Option.bind_some, bsz_0 h0, if_pos (by decide), q2, Option.bind_some]
          · obtain ⟨d, k1, k2, k3⟩ := bsz_pos h0
            have hd8 : bsz r ≤ 8 * r.length := sz_le _ _
            obtain ⟨u, U, u1, u2, u3⟩ := b_Mod bp br (by omega) (by omega) k2 k3
            obtain ⟨v, V, w1, w2, w3⟩ := b_Mod bq br (by omega) (by omega) k2 k3
            obtain ⟨s, s1, s2⟩ := b_Add bp bq (by omega) (by omega)
            have hsl := s2.len (hpb.add hqb)
            obtain ⟨w, W, x1, x2, x3⟩ := b_Mod s2.byt br (by omega) (by omega) k2 k3
            obtain ⟨z, Z, z1, z2, z3⟩ := b_Mod g2.byt br (by omega) (by omega) k2 k3
            have hZ : Z = 0 := Rest.unique k2 k3 z3 (by rw [g2.is]; exact Rest.mul hpb)
            have hW : W = U + V := Rest.unique k2 k3 x3 (by rw [s2.is]; exact u3.add w3)
            have hul := u2.len u3.1
            have hvl := w2.len w3.1
            obtain ⟨o, o1, o2⟩ := b_Add u2.byt w2.byt (by omega) (by omega)
            have ew : o = w := o2.eq x2 (by rw [u2.is, w2.is]; exact hW.symm)
            have ez : z = [] := z2.nil hZ
            subst ew
            subst ez
            have hdu := degB u2.byt (by omega)
            have hdd : bsz u ≤ d := by rw [bsz_is u2.is u3.1]; exact sz_le _ _
            refine (((hdr.and u1).and (w1.and s1)).and (((x1.and g1).and (z1.and awake)).and (o1.and hdu))).step fun k ⟨⟨⟨q1, q2⟩, q3, q4⟩, ⟨⟨q5, q6⟩, q7, q8⟩, q9, q10⟩ => ?_
            rw [casematelaw04_BpolyLaws.j1, if_neg (by simp), q1, Option.bind_some, if_neg (by omega), q2, Option.bind_some, q3, Option.bind_some, q4, Option.bind_some, q5, Option.bind_some, q6, Option.bind_some, q7, Option.bind_some, q8, Option.bind_some, if_pos rfl]
            dsimp only
            rw [if_pos rfl, if_pos rfl, if_pos rfl, if_pos rfl, q9, Option.bind_some, if_pos rfl, if_pos (show ((([] : List Int).length : Nat) : Int) = 0 from rfl), q10, Option.bind_some, Option.bind_some, decide_eq_true (by omega)]
        have hj0 : Evt fun k => casematelaw04_BpolyLaws.j0 k p q r (gi y) false = some true := by
          refine ((((m1.and v1).and (v2.and v3)).and ((n1.and a1).and (b1.and c1))).and (((d1.and f1).and (g1.and h1)).and (hM.and hj1))).step fun k ⟨⟨⟨⟨q1, q2⟩, q3, q4⟩, ⟨q5, q6⟩, q7, q8⟩, ⟨⟨q9, q10⟩, q11, q12⟩, q13, q14⟩ => ?_
          rw [casematelaw04_BpolyLaws.j0, if_neg (by simp), q1, Option.bind_some, q2, Option.bind_some, q3, Option.bind_some, q4, Option.bind_some]
          dsimp only
          rw [if_pos rfl, q5, Option.bind_some, if_pos rfl, q6, Option.bind_some, q7, Option.bind_some, q8, Option.bind_some, if_pos rfl, q9, Option.bind_some, q10, Option.bind_some, q11, Option.bind_some, q12, Option.bind_some, if_pos rfl, q13, Option.bind_some]
          rw [show (gi (vb (toB p) 480 y * vb (toB q) 480 y) != gi (vb (toB p) 480 y * vb (toB q) 480 y)) = false from by simp]
          exact q14
        refine hj0.mono fun k h => ?_
        unfold casematelaw04_BpolyLaws.f
        rw [l_small, Option.bind_some, if_pos (decide_eq_true ⟨np, nq⟩), if_neg hr, r2_Is, Option.bind_some, decide_eq_true hi]
        exact h
      · refine hT.mono fun k h => ?_
        unfold casematelaw04_BpolyLaws.f
        rw [l_small, Option.bind_some, if_pos (decide_eq_true hs), if_neg hr, r2_Is, Option.bind_some, decide_eq_false hi]
        exact h
  · refine hT.mono fun k h => ?_
    unfold casematelaw04_BpolyLaws.f
    rw [l_small, Option.bind_some, if_neg (by simpa using hs)]
    exact h
end Go.Proofs.Ytfclloehamgplaa.Pure

/- The pure statement of the law BpolySums: what the printed function of the law comes to is true at every input. No condition. -/
import Derived.Test.YtfclloehamgplaaBpoly
import Derived.Test.YtfclloehamgplaaPx14
set_option linter.unusedVariables false
set_option linter.unusedSimpArgs false
namespace Go.Proofs.Ytfclloehamgplaa.Pure
open Go Go.RowKit Go.Proofs.Ytfclloehamgplaa.P Go.Proofs.YtfclloehamgplaaW.PrintWords Go.Proofs.YtfclloehamgplaaW.PrintLast Go.Proofs.YtfclloehamgplaaW.PrintMore Go.Proofs.CsM Go.Proofs.Ytfclloehamgplaa.L
set_option maxHeartbeats 1000000 in
theorem BpolySums : casematelaw04_BpolySums.Pure := by
  intro p q x hp1 hp2 hp3 hq1 hq2 hq3 hx
  have bp := byt_wf hp3
  have bq := byt_wf hq3
  refine Evt.get ?_
  have hT : Evt fun k => casematelaw04_BpolySums.j0 k p q x true = some true := Evt.of 0 fun k hk => by
    obtain ⟨k, rfl⟩ := fuel hk
    rw [casematelaw04_BpolySums.j0, if_pos rfl]
  by_cases hs : p.length ≤ 60 ∧ q.length ≤ 60
  · by_cases hi : isEl x
    · obtain ⟨y, rfl⟩ := exists_el hi
      obtain ⟨np, nq⟩ := hs
      obtain ⟨s, s1, s2⟩ := b_Add bp bq (by omega) (by omega)
      obtain ⟨m, m1, m2⟩ := b_Mul bp bq (by omega) (by omega)
      obtain ⟨z, z1, z2⟩ := b_Add bp bp (by omega) (by omega)
      have hz : z = [] := z2.nil (R2.add_self _)
      subst hz
      have hpb : Bd (toB p) 480 := (toB_bd p).mono (by omega)
      have hqb : Bd (toB q) 480 := (toB_bd q).mono (by omega)
      have hsl := s2.len (hpb.add hqb)
      have hml := m2.len (Bd.mul' hpb hqb)
      have v1 := b_Value bp (by omega) y
      have v2 := b_Value bq (by omega) y
      have v3 := b_Value s2.byt (by omega) y
      rw [vb_any (toB_bd p) hpb] at v1
      rw [vb_any (toB_bd q) hqb] at v2
      rw [s2.is, vb_any (n := 8 * s.length) (m := 480) (by rw [← s2.is]; exact toB_bd s) (hpb.add hqb), vb_add] at v3
      have hSum : Evt fun k => casemateref02_Sum.f k (gi (vb (toB p) 480 y)) (gi (vb (toB q) 480 y)) = some (gi (vb (toB p) 480 y + vb (toB q) 480 y)) := Evt.of 29 fun k hk => r2_Sum _ _ hk
      generalize vb (toB p) 480 y = a at v1 v3 hSum
      generalize vb (toB q) 480 y = b at v2 v3 hSum
      have hj1 : ∀ dp dq dm : Nat, dp ≤ 480 → dq ≤ 480 → (dm = 0 ∧ (dp = 0 ∨ dq = 0) ∨ 0 < dp ∧ 0 < dq ∧ dm + 1 = dp + dq) →
          Evt fun k => casematelaw04_BpolySums.j1 k p (gi a) 0 (gi b) 0 (gi (a + b)) 0 ((dp : Int) - 1) ((dq : Int) - 1) ((dm : Int) - 1) (if (dp : Int) - 1 < 0 then true else decide ((dq : Int) - 1 < 0)) = some true := by
        intro dp dq dm hdp hdq hd
        refine (awake.and (z1.and hSum)).step fun k ⟨h1, h2, h3⟩ => ?_
        rcases hd with ⟨hd1, hd2⟩ | ⟨hd1, hd2, hd3⟩
        · have : (if (dp : Int) - 1 < 0 then true else decide ((dq : Int) - 1 < 0)) = true := by
            by_cases h : (dp : Int) - 1 < 0
            · rw [if_pos h]
            · rw [if_neg h, decide_eq_true (by omega)]
          rw [this, casematelaw04_BpolySums.j1, if_pos rfl, if_pos (by omega), h1, Option.bind_some, if_pos rfl, if_pos rfl, if_pos rfl, if_pos rfl, h2, Option.bind_some, if_pos (by simp), h3, Option.bind_some, beq_self_eq_true]
        · rw [if_neg (by omega), decide_eq_false (by omega), casematelaw04_BpolySums.j1, if_neg (by simp), show wrap64 ((dp : Int) - 1 + ((dq : Int) - 1)) = (dp : Int) - 1 + ((dq : Int) - 1) from w64 (by omega) (by omega), if_pos (by omega), h1, Option.bind_some, if_pos rfl, if_pos rfl, if_pos rfl, if_pos rfl, h2, Option.bind_some, if_pos (by simp), h3, Option.bind_some, beq_self_eq_true]
      have hdeg : (bsz m = 0 ∧ (bsz p = 0 ∨ bsz q = 0) ∨ 0 < bsz p ∧ 0 < bsz q ∧ bsz m + 1 = bsz p + bsz q) := by
        by_cases p0 : toB p = 0
        · exact .inl ⟨bsz_0 (by rw [m2.is, p0, r_zero_mul]), .inl (bsz_0 p0)⟩
        · by_cases q0 : toB q = 0
          · exact .inl ⟨bsz_0 (by rw [m2.is, q0, r_mul_zero]), .inr (bsz_0 q0)⟩
          · obtain ⟨d, d1, d2, d3⟩ := bsz_pos p0
            obtain ⟨e, e1, e2, e3⟩ := bsz_pos q0
            obtain ⟨f1, f2⟩ := dtop_mul (b_ne0.2 d2) d3 (b_ne0.2 e2) e3
            have := bsz_top (l := m) (d := d + e) (by rw [m2.is]; exact b_ne0.1 f1) (by rw [m2.is]; exact f2)
            exact .inr ⟨by omega, by omega, by omega⟩
      have hpl : bsz p ≤ 480 := Nat.le_trans (sz_le _ _) (by omega)
      have hql : bsz q ≤ 480 := Nat.le_trans (sz_le _ _) (by omega)
      have hj := hj1 (bsz p) (bsz q) (bsz m) hpl hql hdeg
      have hj0 : Evt fun k => casematelaw04_BpolySums.j0 k p q (gi y) false = some true := by
        refine ((v1.and (v2.and (s1.and v3))).and (((degB bp (by omega)).and ((degB bq (by omega)).and (m1.and (degB m2.byt (by omega))))).and hj)).step fun k ⟨⟨g1, g2, g3, g4⟩, ⟨g5, g6, g7, g8⟩, g9⟩ => ?_
        rw [casematelaw04_BpolySums.j0, if_neg (by simp), g1, Option.bind_some, g2, Option.bind_some, g3, Option.bind_some, g4, Option.bind_some, g5, Option.bind_some, g6, Option.bind_some, g7, Option.bind_some, g8, Option.bind_some]
        by_cases h : (bsz p : Int) - 1 < 0
        · rw [if_pos h] at g9 ⊢; exact g9
        · rw [if_neg h] at g9 ⊢; exact g9
      refine hj0.mono fun k h => ?_
      unfold casematelaw04_BpolySums.f
      rw [l_small, Option.bind_some, if_pos (decide_eq_true ⟨np, nq⟩), r2_Is, Option.bind_some, decide_eq_true hi]
      exact h
    · refine hT.mono fun k h => ?_
      unfold casematelaw04_BpolySums.f
      rw [l_small, Option.bind_some, if_pos (decide_eq_true hs), r2_Is, Option.bind_some, decide_eq_false hi]
      exact h
  · refine hT.mono fun k h => ?_
    unfold casematelaw04_BpolySums.f
    rw [l_small, Option.bind_some, if_neg (by simpa using hs)]
    exact h
end Go.Proofs.Ytfclloehamgplaa.Pure

/- The pure statement of the law PolyTwice: what the printed function of the law comes to is true at every input. No condition. -/
import Derived.Test.YtfjmbmlmbchglaaPoly
import Derived.Test.YtfjmbmlmbchglaaPx13
set_option linter.unusedVariables false
set_option linter.unusedSimpArgs false
namespace Go.Proofs.Ytfjmbmlmbchglaa.Pure
open Go Go.RowKit Go.Proofs.Ytfjmbmlmbchglaa.P Go.Proofs.YtfjmbmlmbchglaaW.PrintWords Go.Proofs.YtfjmbmlmbchglaaW.PrintLast Go.Proofs.YtfjmbmlmbchglaaW.PrintMore Go.Proofs.CsM Go.Proofs.Ytfjmbmlmbchglaa.L
set_option maxHeartbeats 1000000 in
theorem PolyTwice : casematelaw03_PolyTwice.Pure := by
  intro p q hp1 hp2 hp3 hq1 hq2 hq3
  unfold maxLen at hp1 hq1
  refine Evt.get ?_
  have hT : Evt fun k => casematelaw03_PolyTwice.j0 k p q true = some true := Evt.of 0 fun k hk => by
    obtain ⟨k, rfl⟩ := fuel hk
    rw [casematelaw03_PolyTwice.j0, if_pos rfl]
  have hI := (r3_Is p (by omega)).and (r3_Is q (by omega))
  by_cases hg : (p.length ≤ 60 ∧ q.length ≤ 60) ∧ El p ∧ El q
  · obtain ⟨⟨np, nq⟩, ep, eq⟩ := hg
    have hJ : Evt fun k => casematelaw03_PolyTwice.j1 k p q false = some true := by
      by_cases h0 : toS q = 0
      · refine (awake.and (p_Div_zero p q ep eq h0 (by omega) (by omega))).step fun k ⟨aw, h1⟩ => ?_
        rw [casematelaw03_PolyTwice.j1, if_neg (by simp)]
        simp only [h1, aw, Option.bind_some]; simp
      · obtain ⟨A, B, g1, eA, eB, fA, fB, lB, lA, e1⟩ := p_Div p q ep eq h0 (by omega) (by omega)
        have hBl : B.length ≤ 60 := by have := fin_le q; omega
        obtain ⟨A', B', g2, eA', eB', fA', fB', lB', lA', e2⟩ := p_Div B q eB eq h0 (by omega) (by omega)
        have hql := fin_le q
        obtain ⟨d, hd⟩ : ∃ d, (fin q).length = d + 1 := ⟨(fin q).length - 1, by omega⟩
        have htop : (toS q).c d ≠ 0 := by have := fin_top' eq (by omega); rwa [hd, Nat.add_sub_cancel] at this
        have hbd : Bd (toS q) (d + 1) := by rw [← hd]; exact fin_bd q
        obtain ⟨u1, u2⟩ := div_unique (n := A'.length) htop hbd (toS_bd A') (Bd_zero _) ((toS_bd B').mono (by omega)) ((toS_bd B).mono (by omega)) (show toS A' * toS q + toS B' = 0 * toS q + toS B by rw [e2, r_zero_mul, r_zero_add])
        have hA' : A' = [] := by rw [← fA']; exact fin_len0 eA' u1
        obtain ⟨z, g3, c3⟩ := l_add eB' eB 60 ⟨by omega, hBl⟩ (by omega)
        have hz : z = [] := c3.nil (by rw [u2, R2.add_self])
        subst hA'; subst hz
        refine (awake.and (g1.and (g2.and g3))).step fun k ⟨aw, h1, h2, h3⟩ => ?_
        rw [casematelaw03_PolyTwice.j1, if_neg (by simp)]
        simp only [h1, h2, h3, aw, Option.bind_some]; simp
    have hF : Evt fun k => casematelaw03_PolyTwice.j0 k p q false = some true := by
      obtain ⟨a, g1, c1⟩ := l_der ep 60 (by omega) (by omega)
      obtain ⟨b, g2, c2⟩ := l_der eq 60 (by omega) (by omega)
      obtain ⟨s, g3, c3⟩ := l_add ep eq 60 (by omega) (by omega)
      obtain ⟨c, g4, c4⟩ := l_der c3.el 60 c3.len (by omega)
      obtain ⟨m, g5, c5⟩ := l_mul ep ep 120 (by omega) (by omega)
      obtain ⟨d, g6, c6⟩ := l_der c5.el 120 c5.len (by omega)
      obtain ⟨z, g7, c7⟩ := l_add ep ep 60 (by omega) (by omega)
      obtain ⟨ab, g8, c8⟩ := l_add c1.el c2.el 60 ⟨c1.len, c2.len⟩ (by omega)
      obtain ⟨zz, g9, c9⟩ := l_add c4.el c8.el 60 ⟨c4.len, c8.len⟩ (by omega)
      have hd : d = [] := c6.nil (by rw [c5.toS, der_sq])
      have hz : z = [] := c7.nil (R2.add_self _)
      have hzz : zz = [] := c9.nil (by rw [c4.toS, c8.toS, c1.toS, c2.toS, c3.toS, der_add, R2.add_self])
      subst hd; subst hz; subst hzz
      refine ((g1.and (g2.and (g3.and (g4.and g5)))).and ((g6.and (g7.and (g8.and g9))).and hJ)).step fun k ⟨⟨a1, a2, a3, a4, a5⟩, ⟨a6, a7, a8, a9⟩, hj⟩ => ?_
      rw [casematelaw03_PolyTwice.j0, if_neg (by simp)]
      simp only [a1, a2, a3, a4, a5, a6, a7, a8, a9, Option.bind_some]
      simpa using hj
    refine (hI.and hF).mono fun k ⟨⟨h1, h2⟩, h4⟩ => ?_
    unfold casematelaw03_PolyTwice.f
    rw [l_small, Option.bind_some, if_pos (decide_eq_true ⟨np, nq⟩), h1, Option.bind_some, if_pos (decide_eq_true ep), h2, Option.bind_some, decide_eq_true eq]
    exact h4
  · refine (hI.and hT).mono fun k ⟨⟨h1, h2⟩, h4⟩ => ?_
    unfold casematelaw03_PolyTwice.f
    simp only [l_small, h1, h2, Option.bind_some]
    by_cases a1 : p.length ≤ 60 ∧ q.length ≤ 60
    · rw [if_pos (decide_eq_true a1)]
      by_cases a3 : El p
      · rw [if_pos (decide_eq_true a3), decide_eq_false (fun a5 => hg ⟨a1, a3, a5⟩)]; exact h4
      · rw [if_neg (by simpa using a3)]; exact h4
    · rw [if_neg (by simpa using a1)]; exact h4
end Go.Proofs.Ytfjmbmlmbchglaa.Pure

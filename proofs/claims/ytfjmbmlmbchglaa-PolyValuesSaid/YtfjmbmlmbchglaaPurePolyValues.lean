/- The pure statement of the law PolyValues: what the printed function of the law comes to is true at every input. No condition. -/
import Derived.Test.YtfjmbmlmbchglaaPoly
import Derived.Test.YtfjmbmlmbchglaaPx12
set_option linter.unusedVariables false
set_option linter.unusedSimpArgs false
namespace Go.Proofs.Ytfjmbmlmbchglaa.Pure
open Go Go.RowKit Go.Proofs.Ytfjmbmlmbchglaa.P Go.Proofs.YtfjmbmlmbchglaaW.PrintWords Go.Proofs.YtfjmbmlmbchglaaW.PrintLast Go.Proofs.YtfjmbmlmbchglaaW.PrintMore Go.Proofs.CsM Go.Proofs.Ytfjmbmlmbchglaa.L
theorem toS_lin' (x : GF) : toS [gi x, 1] = XX + cst x := by
  rw [toS_cons, toS_cons, toS_nil, r_mul_zero, R2.add_zero, gof_gi, ← gi_one, gof_gi, cst_one, R2.mul_one, R2.add_comm]
set_option maxHeartbeats 1000000 in
theorem PolyValues : casematelaw03_PolyValues.Pure := by
  intro p q x hp1 hp2 hp3 hq1 hq2 hq3 hx
  unfold maxLen at hp1 hq1
  refine Evt.get ?_
  have hT : Evt fun k => casematelaw03_PolyValues.j0 k p q x true = some true := Evt.of 0 fun k hk => by
    obtain ⟨k, rfl⟩ := fuel hk
    rw [casematelaw03_PolyValues.j0, if_pos rfl]
  have hI := (r3_Is p (by omega)).and (r3_Is q (by omega))
  by_cases hg : (p.length ≤ 60 ∧ q.length ≤ 60) ∧ El p ∧ El q ∧ isEl x
  · obtain ⟨⟨np, nq⟩, ep, eq, ex⟩ := hg
    obtain ⟨y, rfl⟩ := exists_el ex
    have hF : Evt fun k => casematelaw03_PolyValues.j0 k p q (gi y) false = some true := by
      obtain ⟨s, g1, c1⟩ := l_add ep eq 60 (by omega) (by omega)
      obtain ⟨m, g2, c2⟩ := l_mul ep eq 120 (by omega) (by omega)
      obtain ⟨d, g3, c3⟩ := l_der c2.el 120 c2.len (by omega)
      obtain ⟨u, g4, c4⟩ := l_der ep 60 (by omega) (by omega)
      obtain ⟨v, g5, c5⟩ := l_der eq 60 (by omega) (by omega)
      obtain ⟨uq, g6, c6⟩ := l_mul c4.el eq 120 (by have := c4.len; omega) (by omega)
      obtain ⟨pv, g7, c7⟩ := l_mul ep c5.el 120 (by have := c5.len; omega) (by omega)
      obtain ⟨t, g8, c8⟩ := l_add c6.el c7.el 120 ⟨c6.len, c7.len⟩ (by omega)
      have c1l := c1.len
      have c2l := c2.len
      have c3l := c3.len
      have hlin : (toS [gi y, 1]).c 1 ≠ 0 := by
        rw [toS_lin', add_c, cst_c, if_neg (by omega), R2.add_zero]; exact g_one_ne
      have elin : El [gi y, 1] := El.cons.2 ⟨gi_el y, El.cons.2 ⟨gi_el 1, El.nil⟩⟩
      obtain ⟨A, B, g9, eA, eB, fA, fB, lB, lA, e1⟩ := p_Div p [gi y, 1] ep elin (ser_ne hlin) (by omega) (by simp)
      have lB1 : B.length ≤ 1 := by have := fin_le [gi y, 1]; simp at this; omega
      have vs : evl s y = evl p y + evl q y := by
        rw [evl_of c1.toS (((toS_bd p).mono np).add ((toS_bd q).mono nq)), ev_add, ev_bd (toS_bd p) np, ev_bd (toS_bd q) nq]; rfl
      have vm : evl m y = evl p y * evl q y := by
        rw [evl_of c2.toS (((toS_bd p).mul' (toS_bd q)).mono (Nat.sub_le _ 1)), ev_mul (toS_bd p) (toS_bd q)]; rfl
      have vB : evl B 0 = evl p y := by
        have b1 : Bd (toS B) 1 := (toS_bd B).mono lB1
        have h1 : Bd (toS A * toS [gi y, 1]) (A.length + 2) := ((toS_bd A).mul' (toS_bd [gi y, 1])).mono (by simp)
        have e2 : evl p y = ev (toS A * toS [gi y, 1] + toS B) (A.length + 2) y := evl_of e1.symm (h1.add (b1.mono (by omega))) y
        have e3 : ev (toS A * toS [gi y, 1]) (A.length + 2) y = 0 := by
          have := ev_mul (toS_bd A) (toS_bd [gi y, 1]) y
          rw [show [gi y, 1].length = 2 from rfl] at this
          rw [this, toS_lin', ev_lin, R2.add_self, r_mul_zero]
        rw [e2, ev_add, e3, r_zero_add, ev_bd b1 (by omega), evl_of rfl b1, ev_at0 _ 1 (by omega)]
        unfold ev
        rw [sm_succ, sm_zero, r_zero_add, pw_zero, R2.mul_one]
      have i1 := ints_yes (a := d) (by omega) (c3.eq c8 (by rw [c2.toS, c6.toS, c7.toS, c4.toS, c5.toS, der_mul]))
      have v1 := p_Eval p ep y (by omega)
      have v2 := p_Eval q eq y (by omega)
      have v3 := p_Eval s c1.el y (by omega)
      have v4 := p_Eval m c2.el y (by omega)
      have v5 := p_Eval B eB 0 (by omega)
      rw [gi_zero] at v5
      have hJ : Evt fun k => casematelaw03_PolyValues.j1 k p q (gi (evl p y)) (gi (evl q y)) (gi (evl s y)) (gi (evl m y)) (gi (evl B 0)) d u v false = some true := by
        refine (awake.and ((g6.and (g7.and g8)).and (i1.and (Evt.of 58 fun k hk => (hk : 58 < k))))).step fun k ⟨aw, ⟨a1, a2, a3⟩, a4, hk⟩ => ?_
        rw [casematelaw03_PolyValues.j1, if_neg (by simp), aw, Option.bind_some, if_pos rfl, r2_Sum _ _ (by omega), Option.bind_some, if_pos (by rw [vs]), r2_Mul _ _ (by omega), Option.bind_some, if_pos (by rw [vm]), if_pos (by rw [vB]), a1, Option.bind_some, a2, Option.bind_some, a3, Option.bind_some, a4, Option.bind_some]
      refine (hJ.and ((v1.and (v2.and (v3.and (v4.and v5)))).and ((g1.and (g2.and (g3.and (g4.and g5)))).and g9))).step fun k ⟨hj, ⟨a1, a2, a3, a4, a5⟩, ⟨b1, b2, b3, b4, b5⟩, b6⟩ => ?_
      rw [casematelaw03_PolyValues.j0, if_neg (by simp)]
      simp only [a1, a2, a3, a4, a5, b1, b2, b3, b4, b5, b6, Option.bind_some]
      simpa using hj
    refine (hI.and hF).mono fun k ⟨⟨h1, h2⟩, h4⟩ => ?_
    unfold casematelaw03_PolyValues.f
    rw [l_small, Option.bind_some, if_pos (decide_eq_true ⟨np, nq⟩), h1, Option.bind_some, if_pos (decide_eq_true ep), h2, Option.bind_some, if_pos (decide_eq_true eq), r2_Is, Option.bind_some, decide_eq_true ex]
    exact h4
  · refine (hI.and hT).mono fun k ⟨⟨h1, h2⟩, h4⟩ => ?_
    unfold casematelaw03_PolyValues.f
    simp only [l_small, h1, h2, r2_Is, Option.bind_some]
    by_cases a1 : p.length ≤ 60 ∧ q.length ≤ 60
    · rw [if_pos (decide_eq_true a1)]
      by_cases a3 : El p
      · rw [if_pos (decide_eq_true a3)]
        by_cases a4 : El q
        · rw [if_pos (decide_eq_true a4), decide_eq_false (fun a5 => hg ⟨a1, a3, a4, a5⟩)]; exact h4
        · rw [if_neg (by simpa using a4)]; exact h4
      · rw [if_neg (by simpa using a3)]; exact h4
    · rw [if_neg (by simpa using a1)]; exact h4
end Go.Proofs.Ytfjmbmlmbchglaa.Pure

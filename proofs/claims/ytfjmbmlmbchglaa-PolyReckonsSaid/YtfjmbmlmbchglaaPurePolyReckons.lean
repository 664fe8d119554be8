/- The pure statement of the law PolyReckons: what the printed function of the law comes to is true at every input. No condition. -/
import Derived.Test.YtfjmbmlmbchglaaPoly
import Derived.Test.YtfjmbmlmbchglaaPx11
set_option linter.unusedVariables false
set_option linter.unusedSimpArgs false
namespace Go.Proofs.Ytfjmbmlmbchglaa.Pure
open Go Go.RowKit Go.Proofs.Ytfjmbmlmbchglaa.P Go.Proofs.YtfjmbmlmbchglaaW.PrintWords Go.Proofs.YtfjmbmlmbchglaaW.PrintLast Go.Proofs.YtfjmbmlmbchglaaW.PrintMore Go.Proofs.CsM Go.Proofs.Ytfjmbmlmbchglaa.L
set_option maxHeartbeats 1000000 in
theorem reckons_j1 (p q : List Int) (ep : El p) (np : p.length ≤ 60) (nq : q.length ≤ 60) : ∃ s es m em, (Evt fun k => poly_Add.f k p q = some (s, es)) ∧ (Evt fun k => poly_Mul.f k p q = some (m, em)) ∧ Evt fun k => casematelaw03_PolyReckons.j1 k p q s es m em false = some true := by
  by_cases eq : El q
  · refine ⟨_, _, _, _, p_Add p q ep eq (by omega), p_Mul p q ep eq (by omega), ?_⟩
    have l1 := pl_length_le (toS p + toS q) (max p.length q.length)
    have l2 := pl_length_le (toS p * toS q) (p.length + q.length)
    refine (awake.and ((r3_Is q (by omega)).and ((r3_Add p q ep eq (by omega)).and ((r3_Mul p q ep eq (by omega)).and ((ints_yes (a := pl (toS p + toS q) (max p.length q.length)) (by omega) rfl).and (ints_yes (a := pl (toS p * toS q) (p.length + q.length)) (by omega) rfl)))))).step fun k ⟨aw, h1, h2, h3, h4, h5⟩ => ?_
    rw [casematelaw03_PolyReckons.j1, if_neg (by simp), h1, Option.bind_some, if_pos (decide_eq_true eq), aw, Option.bind_some, if_pos rfl, if_pos rfl, if_pos rfl, h2, Option.bind_some, h4, Option.bind_some, if_pos rfl, h3, Option.bind_some, h5, Option.bind_some]
  · refine ⟨_, _, _, _, p_Add_no p q (fun e => eq e.2) (by omega) (by omega), p_Mul_no p q (fun e => eq e.2) (by omega) (by omega), ?_⟩
    refine (awake.and (r3_Is q (by omega))).step fun k ⟨aw, h1⟩ => ?_
    rw [casematelaw03_PolyReckons.j1, if_neg (by simp), h1, Option.bind_some, if_neg (by simpa using eq), aw, Option.bind_some, if_pos rfl, if_pos rfl, if_pos rfl]
    have hz : wrap64 0 = 0 := w64 (by omega) (by omega)
    simp [hz]
set_option maxHeartbeats 1000000 in
theorem PolyReckons : casematelaw03_PolyReckons.Pure := by
  intro p q x hp1 hp2 hp3 hq1 hq2 hq3 hx
  unfold maxLen at hp1 hq1
  refine Evt.get ?_
  by_cases hg : p.length ≤ 60 ∧ q.length ≤ 60
  · obtain ⟨np, nq⟩ := hg
    have i0 := ints_yes (a := p) (b := p) (by omega) rfl
    by_cases ep : El p
    · obtain ⟨s, es, m, em, g1, g2, g3⟩ := reckons_j1 p q ep np nq
      have hl1 := fin_le p
      have hl2 := pl_length_le (der (toS p)) p.length
      have i1 := ints_yes (a := fin p) (b := fin p) (by omega) rfl
      have i2 := ints_yes (a := pl (der (toS p)) p.length) (by omega) rfl
      have hJ : ∃ v e, (Evt fun k => poly_Eval.f k p x = some (v, e)) ∧ Evt fun k => casematelaw03_PolyReckons.j0 k p q x s es m em v e false = some true := by
        by_cases ex : isEl x
        · obtain ⟨y, rfl⟩ := exists_el ex
          refine ⟨_, _, p_Eval p ep y (by omega), ?_⟩
          refine (g3.and (r3_Eval p ep y (by omega))).step fun k ⟨h1, h2⟩ => ?_
          rw [casematelaw03_PolyReckons.j0, if_neg (by simp), r2_Is, Option.bind_some, decide_eq_true ex, if_neg (by simp), if_pos rfl, h2, Option.bind_some, show (gi (evl p y) != gi (evl p y)) = false from by simp]
          exact h1
        · refine ⟨_, _, p_Eval_no p x (fun e => ex e.2) (by omega), ?_⟩
          refine g3.step fun k h1 => ?_
          rw [casematelaw03_PolyReckons.j0, if_neg (by simp), r2_Is, Option.bind_some, decide_eq_false ex, if_neg (by simp), if_neg (by simp), if_pos rfl, if_pos rfl]
          exact h1
      obtain ⟨v, e, g4, g5⟩ := hJ
      refine (((g1.and g2).and (g4.and g5)).and ((i0.and (i1.and i2)).and ((p_Norm p ep (by omega)).and ((p_Derive p ep (by omega)).and ((r3_Is p (by omega)).and ((r3_Norm p (by omega)).and (r3_Derive p ep (by omega)))))))).mono fun k ⟨⟨⟨a1, a2⟩, a3, a4⟩, ⟨b1, b2, b3⟩, c1, c2, c3, c4, c5⟩ => ?_
      unfold casematelaw03_PolyReckons.f
      simp only [l_small, Option.bind_some, List.nil_append]
      rw [if_pos (decide_eq_true ⟨np, nq⟩), if_pos (by simp; omega), c1, Option.bind_some, a1, Option.bind_some, a2, Option.bind_some, c2, Option.bind_some, a3, Option.bind_some, b1, Option.bind_some, if_pos rfl, c3, Option.bind_some, if_pos (decide_eq_true ep), if_pos rfl, if_pos rfl, c4, Option.bind_some, b2, Option.bind_some, if_pos rfl, c5, Option.bind_some, b3, Option.bind_some]
      exact a4
    · refine ((((p_Norm_no p ep (by omega)).and (p_Derive_no p ep (by omega))).and ((p_Add_no p q (fun e => ep e.1) (by omega) (by omega)).and (p_Mul_no p q (fun e => ep e.1) (by omega) (by omega)))).and ((p_Eval_no p x (fun e => ep e.1) (by omega)).and (i0.and (awake.and (r3_Is p (by omega)))))).mono fun k ⟨⟨⟨a1, a2⟩, a3, a4⟩, a5, b1, aw, c3⟩ => ?_
      unfold casematelaw03_PolyReckons.f
      simp only [l_small, Option.bind_some, List.nil_append]
      rw [if_pos (decide_eq_true ⟨np, nq⟩), if_pos (by simp; omega), a1, Option.bind_some, a3, Option.bind_some, a4, Option.bind_some, a2, Option.bind_some, a5, Option.bind_some, b1, Option.bind_some, if_pos rfl, c3, Option.bind_some, if_neg (by simpa using ep), aw, Option.bind_some, if_pos rfl, if_pos rfl, if_pos rfl, if_pos rfl, if_pos rfl, if_pos rfl]
      have hz : wrap64 0 = 0 := w64 (by omega) (by omega)
      simp [hz]
  · refine Evt.all fun k => ?_
    unfold casematelaw03_PolyReckons.f
    rw [l_small, Option.bind_some, if_neg (by simpa using hg)]
end Go.Proofs.Ytfjmbmlmbchglaa.Pure

/- The pure statement of the law PolyLengths: what the printed function of the law comes to is true at every input. No condition. -/
import Derived.Test.YtfjmbmlmbchglaaPoly
import Derived.Test.YtfjmbmlmbchglaaPx6
set_option linter.unusedVariables false
set_option linter.unusedSimpArgs false
namespace Go.Proofs.Ytfjmbmlmbchglaa.Pure
open Go Go.RowKit Go.Proofs.Ytfjmbmlmbchglaa.P Go.Proofs.YtfjmbmlmbchglaaW.PrintWords Go.Proofs.YtfjmbmlmbchglaaW.PrintLast Go.Proofs.YtfjmbmlmbchglaaW.PrintMore Go.Proofs.CsM Go.Proofs.Ytfjmbmlmbchglaa.L
set_option maxHeartbeats 1000000 in
theorem PolyLengths : casematelaw03_PolyLengths.Pure := by
  intro p q hp1 hp2 hp3 hq1 hq2 hq3
  unfold maxLen at hp1 hq1
  refine Evt.get ?_
  have hT : Evt fun k => casematelaw03_PolyLengths.j0 k p q true = some true := Evt.of 0 fun k hk => by
    obtain ⟨k, rfl⟩ := fuel hk
    rw [casematelaw03_PolyLengths.j0, if_pos rfl]
  have hI := (r3_Is p (by omega)).and (r3_Is q (by omega))
  by_cases hg : (p.length ≤ 60 ∧ q.length ≤ 60) ∧ El p ∧ El q
  · obtain ⟨⟨np, nq⟩, ep, eq⟩ := hg
    have hF : Evt fun k => casematelaw03_PolyLengths.j0 k p q false = some true := by
      obtain ⟨m, g1, c1⟩ := l_mul ep eq 120 (by omega) (by omega)
      have n1 := r3_Norm p (by omega)
      have n2 := r3_Norm q (by omega)
      by_cases hp0 : fin p = []
      · have hm : m = [] := c1.nil (by rw [(toS_zero_iff ep).2 hp0, r_zero_mul])
        subst hm
        refine ((awake.step (q := fun k => casematelaw03_PolyLengths.j1 k p (fin p) (fin q) [] true = some true) fun k h => by rw [casematelaw03_PolyLengths.j1, if_pos rfl, h]; simp).and (g1.and (n1.and n2))).step fun k ⟨h1, h2, h3, h4⟩ => ?_
        rw [casematelaw03_PolyLengths.j0, if_neg (by simp), h3, Option.bind_some, h4, Option.bind_some, h2, Option.bind_some, if_pos (by rw [hp0]; rfl)]
        exact h1
      · have hpl : 0 < (fin p).length := List.length_pos_iff.2 hp0
        by_cases hq0 : fin q = []
        · have hm : m = [] := c1.nil (by rw [(toS_zero_iff eq).2 hq0, r_mul_zero])
          subst hm
          refine ((awake.step (q := fun k => casematelaw03_PolyLengths.j1 k p (fin p) (fin q) [] true = some true) fun k h => by rw [casematelaw03_PolyLengths.j1, if_pos rfl, h]; simp).and (g1.and (n1.and n2))).step fun k ⟨h1, h2, h3, h4⟩ => ?_
          rw [casematelaw03_PolyLengths.j0, if_neg (by simp), h3, Option.bind_some, h4, Option.bind_some, h2, Option.bind_some, if_neg (by omega), show (((fin q).length : Int) == 0) = true from by rw [hq0]; rfl]
          exact h1
        · have hql : 0 < (fin q).length := List.length_pos_iff.2 hq0
          obtain ⟨d, hd⟩ : ∃ d, (fin p).length = d + 1 := ⟨(fin p).length - 1, by omega⟩
          obtain ⟨e, he⟩ : ∃ e, (fin q).length = e + 1 := ⟨(fin q).length - 1, by omega⟩
          have tp : (toS p).c d ≠ 0 := by have := fin_top' ep (by omega); rwa [hd, Nat.add_sub_cancel] at this
          have tq : (toS q).c e ≠ 0 := by have := fin_top' eq (by omega); rwa [he, Nat.add_sub_cancel] at this
          have bp : Bd (toS p) (d + 1) := by rw [← hd]; exact fin_bd p
          have bq : Bd (toS q) (e + 1) := by rw [← he]; exact fin_bd q
          obtain ⟨t1, t2⟩ := top_mul tp bp tq bq
          have hml : m.length = d + e + 1 := c1.length t1 t2
          have hpl2 := fin_le p
          have hql2 := fin_le q
          obtain ⟨A, B, g2, eA, eB, fA, fB, lB, lA, e1⟩ := p_Div m p c1.el ep (ser_ne tp) (by omega) (by omega)
          obtain ⟨u1, u2⟩ := div_unique (n := A.length + q.length) tp bp ((toS_bd A).mono (by omega)) ((toS_bd q).mono (by omega)) ((toS_bd B).mono (by omega)) (Bd_zero _) (show toS A * toS p + toS B = toS q * toS p + 0 by rw [e1, c1.toS, R2.add_zero, R2.mul_comm])
          have hA : A = fin q := canon_eq eA (fin_El eq) fA (fin_fin eq) (by rw [u1, toS_fin])
          have hB : B = [] := by rw [← fB]; exact fin_len0 eB u2
          subst hB
          have i1 := ints_yes (a := A) (by omega) hA
          refine (((awake.and (g2.and i1)).step (q := fun k => casematelaw03_PolyLengths.j1 k p (fin p) (fin q) m false = some true) fun k ⟨h1, h2, h3⟩ => ?_).and (g1.and (n1.and n2))).step fun k ⟨h1, h2, h3, h4⟩ => ?_
          · rw [casematelaw03_PolyLengths.j1, if_neg (by simp), h2, Option.bind_some, h1, Option.bind_some, if_pos rfl, if_pos rfl, if_pos (by rw [w64 (show -9223372036854775808 ≤ ((fin p).length : Int) + (fin q).length by omega) (by omega), w64 (by omega) (by omega)]; omega), if_pos (show ((([] : List Int).length : Nat) : Int) = 0 from rfl), h3, Option.bind_some]
          · rw [casematelaw03_PolyLengths.j0, if_neg (by simp), h3, Option.bind_some, h4, Option.bind_some, h2, Option.bind_some, if_neg (by omega), show (((fin q).length : Int) == 0) = false from beq_eq_false_iff_ne.2 (by omega)]
            exact h1
    refine (hI.and hF).mono fun k ⟨⟨h1, h2⟩, h4⟩ => ?_
    unfold casematelaw03_PolyLengths.f
    rw [l_small, Option.bind_some, if_pos (decide_eq_true ⟨np, nq⟩), h1, Option.bind_some, if_pos (decide_eq_true ep), h2, Option.bind_some, decide_eq_true eq]
    exact h4
  · refine (hI.and hT).mono fun k ⟨⟨h1, h2⟩, h4⟩ => ?_
    unfold casematelaw03_PolyLengths.f
    simp only [l_small, h1, h2, Option.bind_some]
    by_cases a1 : p.length ≤ 60 ∧ q.length ≤ 60
    · rw [if_pos (decide_eq_true a1)]
      by_cases a3 : El p
      · rw [if_pos (decide_eq_true a3), decide_eq_false (fun a5 => hg ⟨a1, a3, a5⟩)]; exact h4
      · rw [if_neg (by simpa using a3)]; exact h4
    · rw [if_neg (by simpa using a1)]; exact h4
end Go.Proofs.Ytfjmbmlmbchglaa.Pure

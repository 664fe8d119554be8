/- The pure statement of the law PolyLaws: what the printed function of the law comes to is true at every input. No condition. -/
import Derived.Test.YtfjmbmlmbchglaaPoly
import Derived.Test.YtfjmbmlmbchglaaPx8
set_option linter.unusedVariables false
set_option linter.unusedSimpArgs false
namespace Go.Proofs.Ytfjmbmlmbchglaa.Pure
open Go Go.RowKit Go.Proofs.Ytfjmbmlmbchglaa.P Go.Proofs.YtfjmbmlmbchglaaW.PrintWords Go.Proofs.YtfjmbmlmbchglaaW.PrintLast Go.Proofs.YtfjmbmlmbchglaaW.PrintMore Go.Proofs.CsM Go.Proofs.Ytfjmbmlmbchglaa.L
set_option maxHeartbeats 1000000 in
theorem PolyLaws : casematelaw03_PolyLaws.Pure := by
  intro p q r hp1 hp2 hp3 hq1 hq2 hq3 hr1 hr2 hr3
  unfold maxLen at hp1 hq1 hr1
  refine Evt.get ?_
  have hT : Evt fun k => casematelaw03_PolyLaws.j0 k p q r true = some true := Evt.of 0 fun k hk => by
    obtain ⟨k, rfl⟩ := fuel hk
    rw [casematelaw03_PolyLaws.j0, if_pos rfl]
  have hI := (r3_Is p (by omega)).and ((r3_Is q (by omega)).and (r3_Is r (by omega)))
  by_cases hg : (p.length ≤ 60 ∧ q.length ≤ 60) ∧ r.length ≤ 60 ∧ El p ∧ El q ∧ El r
  · obtain ⟨⟨np, nq⟩, nr, ep, eq, er⟩ := hg
    have hF : Evt fun k => casematelaw03_PolyLaws.j0 k p q r false = some true := by
      obtain ⟨s1, g1, c1⟩ := l_add ep eq 60 (by omega) (by omega)
      obtain ⟨s2, g2, c2⟩ := l_add eq ep 60 (by omega) (by omega)
      obtain ⟨s3, g3, c3⟩ := l_add c1.el er 60 ⟨c1.len, nr⟩ (by omega)
      obtain ⟨s4, g4, c4⟩ := l_add eq er 60 (by omega) (by omega)
      obtain ⟨s5, g5, c5⟩ := l_add ep c4.el 60 ⟨np, c4.len⟩ (by omega)
      obtain ⟨m1, g6, d1⟩ := l_mul ep eq 120 (by omega) (by omega)
      obtain ⟨m2, g7, d2⟩ := l_mul eq ep 120 (by omega) (by omega)
      obtain ⟨m3, g8, d3⟩ := l_mul d1.el er 180 (by have := d1.len; omega) (by omega)
      obtain ⟨m4, g9, d4⟩ := l_mul eq er 120 (by omega) (by omega)
      obtain ⟨m5, g10, d5⟩ := l_mul ep d4.el 180 (by have := d4.len; omega) (by omega)
      obtain ⟨m6, g11, d6⟩ := l_mul ep c4.el 120 (by have := c4.len; omega) (by omega)
      obtain ⟨m7, g12, d7⟩ := l_mul ep er 120 (by omega) (by omega)
      obtain ⟨s8, g13, c8⟩ := l_add d1.el d7.el 120 ⟨d1.len, d7.len⟩ (by omega)
      have i1 := ints_yes (a := s1) (by have := c1.len; omega) (c1.eq c2 (R2.add_comm _ _))
      have i2 := ints_yes (a := s3) (by have := c3.len; omega) (c3.eq c5 (by rw [c1.toS, c4.toS, R2.add_assoc]))
      have i3 := ints_yes (a := m1) (by have := d1.len; omega) (d1.eq d2 (R2.mul_comm _ _))
      have i4 := ints_yes (a := m3) (by have := d3.len; omega) (d3.eq d5 (by rw [d1.toS, d4.toS, R2.mul_assoc]))
      have i5 := ints_yes (a := m6) (by have := d6.len; omega) (d6.eq c8 (by rw [c4.toS, d1.toS, d7.toS, R2.mul_add]))
      refine (awake.and ((g1.and (g2.and (g3.and (g4.and g5)))).and ((g6.and (g7.and (g8.and (g9.and g10)))).and ((g11.and (g12.and g13)).and (i1.and (i2.and (i3.and (i4.and i5)))))))).step fun k ⟨aw, ⟨a1, a2, a3, a4, a5⟩, ⟨b1, b2, b3, b4, b5⟩, ⟨b6, b7, a8⟩, j1, j2, j3, j4, j5⟩ => ?_
      rw [casematelaw03_PolyLaws.j0, if_neg (by simp)]
      simp only [aw, a1, a2, a3, a4, a5, b1, b2, b3, b4, b5, b6, b7, a8, j1, j2, j3, j4, j5, Option.bind_some, if_true]
    refine (hI.and hF).mono fun k ⟨⟨h1, h2, h3⟩, h4⟩ => ?_
    unfold casematelaw03_PolyLaws.f
    rw [l_small, Option.bind_some, if_pos (decide_eq_true ⟨np, nq⟩), l_small, Option.bind_some, if_pos (decide_eq_true ⟨nr, by simp⟩), h1, Option.bind_some, if_pos (decide_eq_true ep), h2, Option.bind_some, if_pos (decide_eq_true eq), h3, Option.bind_some, decide_eq_true er]
    exact h4
  · refine (hI.and hT).mono fun k ⟨⟨h1, h2, h3⟩, h4⟩ => ?_
    unfold casematelaw03_PolyLaws.f
    simp only [l_small, h1, h2, h3, Option.bind_some]
    by_cases a1 : p.length ≤ 60 ∧ q.length ≤ 60
    · rw [if_pos (decide_eq_true a1)]
      by_cases a2 : r.length ≤ 60 ∧ ([] : List Int).length ≤ 60
      · rw [if_pos (decide_eq_true a2)]
        by_cases a3 : El p
        · rw [if_pos (decide_eq_true a3)]
          by_cases a4 : El q
          · rw [if_pos (decide_eq_true a4), decide_eq_false (fun a5 => hg ⟨a1, a2.1, a3, a4, a5⟩)]
            exact h4
          · rw [if_neg (by simpa using a4)]; exact h4
        · rw [if_neg (by simpa using a3)]; exact h4
      · rw [if_neg (by simpa using a2)]; exact h4
    · rw [if_neg (by simpa using a1)]; exact h4
end Go.Proofs.Ytfjmbmlmbchglaa.Pure

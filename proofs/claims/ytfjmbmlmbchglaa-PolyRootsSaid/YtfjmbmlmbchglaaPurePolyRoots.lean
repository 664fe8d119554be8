/- The pure statement of the law PolyRoots: what the printed function of the law comes to is true at every input. No condition. -/
import Derived.Test.YtfjmbmlmbchglaaPoly
import Derived.Test.YtfjmbmlmbchglaaPx4
set_option linter.unusedVariables false
set_option linter.unusedSimpArgs false
namespace Go.Proofs.Ytfjmbmlmbchglaa.Pure
open Go Go.RowKit Go.Proofs.Ytfjmbmlmbchglaa.P Go.Proofs.YtfjmbmlmbchglaaW.PrintWords Go.Proofs.YtfjmbmlmbchglaaW.PrintLast Go.Proofs.YtfjmbmlmbchglaaW.PrintMore Go.Proofs.CsM Go.Proofs.Ytfjmbmlmbchglaa.L
theorem toS_lin (x : GF) : toS [gi x, 1] = XX + cst x := by
  rw [toS_cons, toS_cons, toS_nil, r_mul_zero, R2.add_zero, gof_gi, ← gi_one, gof_gi, cst_one, R2.mul_one, R2.add_comm]
theorem El_lin (x : GF) : El [gi x, 1] := El.cons.2 ⟨gi_el x, El.cons.2 ⟨gi_el 1, El.nil⟩⟩
/-- The first i roots, multiplied. -/
def PR (l : List Int) : Nat → Ser GF
  | 0 => 1
  | i + 1 => PR l i * (XX + cst (gof (l.getD i 0)))
theorem Bd_lin (x : GF) : Bd (XX + cst x) (1 + 1) := Bd_XX.add ((Bd_cst x).mono (by omega))
theorem lin_top (x : GF) : (XX + cst x : Ser GF).c 1 = 1 := by
  rw [add_c, cst_c, if_neg (by omega), R2.add_zero]; rfl
theorem PR_top (l : List Int) : ∀ i, (PR l i).c i = 1 ∧ Bd (PR l i) (i + 1)
  | 0 => ⟨rfl, Bd_one⟩
  | i + 1 => by
    obtain ⟨h1, h2⟩ := PR_top l i
    exact ⟨by unfold PR; rw [mul_top h2 (Bd_lin _), h1, lin_top, R2.mul_one], h2.mul (Bd_lin _)⟩
theorem PR_ev (l : List Int) (x : GF) : ∀ i, ev (PR l i) (i + 1) x = 0 ↔ ∃ j, j < i ∧ gof (l.getD j 0) = x
  | 0 => by
    have : ev (PR l 0) (0 + 1) x = 1 := ev_cst (1 : GF) 1 (by omega) x
    rw [this]
    exact ⟨fun h => absurd h g_one_ne, fun ⟨j, h, _⟩ => by omega⟩
  | i + 1 => by
    have e : ev (PR l (i + 1)) (i + 1 + 1) x = ev (PR l i) (i + 1) x * (x + gof (l.getD i 0)) := by
      rw [← ev_bd (PR_top l (i + 1)).2 (show i + 1 + 1 ≤ i + 1 + 2 by omega)]
      rw [show PR l (i + 1) = PR l i * (XX + cst (gof (l.getD i 0))) from rfl, ev_mul (PR_top l i).2 (Bd_lin _), ev_lin]
    rw [e]
    constructor
    · intro h
      by_cases h0 : ev (PR l i) (i + 1) x = 0
      · obtain ⟨j, h1, h2⟩ := (PR_ev l x i).1 h0; exact ⟨j, by omega, h2⟩
      · by_cases h1 : x + gof (l.getD i 0) = 0
        · exact ⟨i, by omega, (r_add_eq_zero.1 h1).symm⟩
        · exact absurd h (gmul_ne h0 h1)
    · rintro ⟨j, h1, h2⟩
      by_cases hj : j = i
      · subst hj; rw [h2, R2.add_self, r_mul_zero]
      · rw [(PR_ev l x i).2 ⟨j, by omega, h2⟩, r_zero_mul]
theorem roots_l1 (l : List Int) (hl : El l) (hn : l.length ≤ 40) (x : GF) (p : List Int) (hp : Can (PR l l.length) (l.length + 1) p) (hpl : p.length = l.length + 1) (one : Bool) (hone : one = true ↔ ∃ j, j < l.length ∧ gof (l.getD j 0) = x) :
    ∀ d i : Nat, i + d = l.length → Evt fun k => casematelaw03_PolyRoots.l1 k l (gi x) p one (i : Int) = some true
  | 0, i, hd => by
    refine (awake.and (p_Eval p hp.el x (by omega))).step fun k ⟨aw, h1⟩ => ?_
    rw [casematelaw03_PolyRoots.l1, if_neg (by omega), h1, Option.bind_some, aw, Option.bind_some, if_pos rfl, if_pos rfl, if_pos, w64 (by omega) (by omega)]
    · rw [hpl]; simp
    · rw [evl_of hp.toS (PR_top l l.length).2]
      have h2 := PR_ev l x l.length
      rw [beq_iff_eq, Bool.eq_iff_iff, beq_iff_eq, gi_eq_zero, h2, hone]
  | d + 1, i, hd => by
    have hi : l.getD i 0 = gi (gof (l.getD i 0)) := (gi_gof (hl.get i)).symm
    refine ((roots_l1 l hl hn x p hp hpl one hone d (i + 1) (by omega)).and (p_Eval p hp.el (gof (l.getD i 0)) (by omega))).step fun k ⟨ih, h1⟩ => ?_
    rw [casematelaw03_PolyRoots.l1, if_pos (by omega), if_pos (by omega), rd_nat, hi, h1, Option.bind_some, if_pos, if_pos rfl, w64 (by omega) (by omega), show (i : Int) + 1 = ((i + 1 : Nat) : Int) from by omega]
    · exact ih
    · show gi (evl p _) = 0
      rw [gi_eq_zero, evl_of hp.toS (PR_top l l.length).2]
      exact (PR_ev l _ l.length).2 ⟨i, by omega, rfl⟩
theorem roots_l0 (l : List Int) (hl : El l) (hn : l.length ≤ 40) (x : GF) :
    ∀ (d i : Nat) (p : List Int) (one : Bool), i + d = l.length → Can (PR l i) (i + 1) p → (one = true ↔ ∃ j, j < i ∧ gof (l.getD j 0) = x) → Evt fun k => casematelaw03_PolyRoots.l0 k l (gi x) p one (i : Int) = some true
  | 0, i, p, one, hd, hp, hone => by
    have : i = l.length := by omega
    subst this
    have hpl : p.length = l.length + 1 := hp.length (by rw [(PR_top l l.length).1]; exact g_one_ne) (PR_top l l.length).2
    refine (roots_l1 l hl hn x p hp hpl one hone l.length 0 (by omega)).step fun k h => ?_
    rw [casematelaw03_PolyRoots.l0, if_neg (by omega)]; exact h
  | d + 1, i, p, one, hd, hp, hone => by
    have hi : l.getD i 0 = gi (gof (l.getD i 0)) := (gi_gof (hl.get i)).symm
    have hplen := hp.len
    obtain ⟨m, g1, c1⟩ := l_mul hp.el (El_lin (gof (l.getD i 0))) (i + 3) (by simp; omega) (by omega)
    have hcan : Can (PR l (i + 1)) (i + 1 + 1) m := by
      have e : toS p * toS [gi (gof (l.getD i 0)), 1] = PR l (i + 1) := by rw [hp.toS, toS_lin]; rfl
      have hlen : m.length = i + 1 + 1 := c1.length (by rw [e, (PR_top l (i + 1)).1]; exact g_one_ne) (by rw [e]; exact (PR_top l (i + 1)).2)
      exact ⟨c1.el, c1.fin, by rw [c1.toS, e], by omega⟩
    have hone' : (one || (l.getD i 0 == gi x)) = true ↔ ∃ j, j < i + 1 ∧ gof (l.getD j 0) = x := by
      rw [Bool.or_eq_true, hone, beq_iff_eq]
      constructor
      · rintro (⟨j, h1, h2⟩ | h)
        · exact ⟨j, by omega, h2⟩
        · exact ⟨i, by omega, by rw [h, gof_gi]⟩
      · rintro ⟨j, h1, h2⟩
        by_cases hj : j = i
        · subst hj; exact .inr (by rw [← h2]; exact hi)
        · exact .inl ⟨j, by omega, h2⟩
    refine ((roots_l0 l hl hn x d (i + 1) m _ (by omega) hcan hone').and g1).step fun k ⟨ih, h1⟩ => ?_
    rw [← hi] at h1
    rw [casematelaw03_PolyRoots.l0, if_pos (by omega), if_pos (by omega), rd_nat, h1, Option.bind_some, w64 (by omega) (by omega), show (i : Int) + 1 = ((i + 1 : Nat) : Int) from by omega]
    by_cases ho : one = true
    · rw [if_pos ho]; rw [ho, Bool.true_or] at ih; exact ih
    · rw [if_neg ho]; rw [Bool.not_eq_true] at ho; rw [ho, Bool.false_or] at ih; exact ih
theorem PolyRoots : casematelaw03_PolyRoots.Pure := by
  intro l x hp1 hp2 hp3 hx
  unfold maxLen at hp1
  refine Evt.get ?_
  have hT : Evt fun k => casematelaw03_PolyRoots.j0 k l x true = some true := Evt.of 0 fun k hk => by
    obtain ⟨k, rfl⟩ := fuel hk
    rw [casematelaw03_PolyRoots.j0, if_pos rfl]
  have hI := r3_Is l (by omega)
  by_cases hn : l.length ≤ 40
  · by_cases hl : El l
    · by_cases hxe : isEl x
      · obtain ⟨y, rfl⟩ := exists_el hxe
        have hone : Can (PR l 0) (0 + 1) [1] := ⟨El.cons.2 ⟨gi_el 1, El.nil⟩, by decide, by rw [toS_cons, toS_nil, r_mul_zero, R2.add_zero, ← gi_one, gof_gi]; rfl, Nat.le_refl _⟩
        refine (((roots_l0 l hl hn y l.length 0 [1] false (by omega) hone ⟨fun h => by simp at h, fun ⟨j, h, _⟩ => by omega⟩).step (q := fun k => casematelaw03_PolyRoots.j0 k l (gi y) false = some true) fun k h => by rw [casematelaw03_PolyRoots.j0, if_neg (by simp)]; exact h).and hI).mono fun k ⟨h1, h2⟩ => ?_
        unfold casematelaw03_PolyRoots.f
        rw [if_neg (by omega), h2, Option.bind_some, if_pos (decide_eq_true hl), r2_Is, Option.bind_some, decide_eq_true hxe]
        exact h1
      · refine (hI.and hT).mono fun k ⟨h2, h4⟩ => ?_
        unfold casematelaw03_PolyRoots.f
        rw [if_neg (by omega), h2, Option.bind_some, if_pos (decide_eq_true hl), r2_Is, Option.bind_some, decide_eq_false hxe]; exact h4
    · refine (hI.and hT).mono fun k ⟨h2, h4⟩ => ?_
      unfold casematelaw03_PolyRoots.f
      rw [if_neg (by omega), h2, Option.bind_some, if_neg (by simpa using hl)]; exact h4
  · refine hT.mono fun k h4 => ?_
    unfold casematelaw03_PolyRoots.f
    rw [if_pos (by omega)]; exact h4
end Go.Proofs.Ytfjmbmlmbchglaa.Pure

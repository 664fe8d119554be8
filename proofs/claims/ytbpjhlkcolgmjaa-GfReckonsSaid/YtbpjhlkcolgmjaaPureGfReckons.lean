/- The pure statement of the law GfReckons: what the printed function of the law comes to is true at every input. No condition. -/
import Derived.Test.YtbpjhlkcolgmjaaGf
import Derived.Test.YtbpjhlkcolgmjaaPx9
set_option linter.unusedVariables false
set_option linter.unusedSimpArgs false
namespace Go.Proofs.Ytbpjhlkcolgmjaa.Pure
open Go Go.RowKit Go.Proofs.Ytbpjhlkcolgmjaa.P Go.Proofs.YtbpjhlkcolgmjaaW.PrintWords Go.Proofs.YtbpjhlkcolgmjaaW.PrintLast Go.Proofs.YtbpjhlkcolgmjaaW.PrintMore Go.Proofs.CsM Go.Proofs.Ytbpjhlkcolgmjaa.L
theorem reck_j1 (a : GF) (ha : a ≠ 0) (n : Int) {k : Nat} (hk : 200 < k) : casematelaw02_GfReckons.j1 k (gi a) n (gi (pw a (ex n))) false = some true := by
  obtain ⟨k, rfl⟩ := fuel (show 0 < k by omega)
  obtain ⟨t1, t2, t3⟩ := tmod_ex n
  have hl := ex_lt n
  rw [casematelaw02_GfReckons.j1, if_neg (by simp)]
  by_cases h : Int.tmod n 8191 < 0
  · rw [if_pos h] at t1 ⊢; rw [awake (by omega), Option.bind_some, if_pos rfl, w64 (by omega) (by omega), t1, r2_Pow a (ex n) (by omega) (by omega), Option.bind_some]; simp
  · rw [if_neg h] at t1 ⊢; rw [awake (by omega), Option.bind_some, if_pos rfl, t1, r2_Pow a (ex n) (by omega) (by omega), Option.bind_some]; simp
theorem reck_j0 (a : GF) (n : Int) {k : Nat} (hk : 300 < k) (hn : -9223372036854775808 ≤ n ∧ n ≤ 9223372036854775807) : ∀ i p : Int × Int, gf_Inv.f k (gi a) = some i → gf_Pow.f k (gi a) n = some p → casematelaw02_GfReckons.j0 k (gi a) n i.1 i.2 p.1 p.2 = some true := by
  intro i p hi hp
  by_cases ha : a = 0
  · subst ha
    rw [gi_zero] at hi hp ⊢
    rw [g_Inv_zero] at hi
    rw [g_Pow_zero n (by omega)] at hp
    obtain rfl := Option.some.inj hi
    obtain rfl := Option.some.inj hp
    obtain ⟨k, rfl⟩ := fuel (show 0 < k by omega)
    rw [casematelaw02_GfReckons.j0, if_pos rfl]
    by_cases h0 : n = 0
    · subst h0
      rw [if_neg (by omega), if_pos rfl, awake (by omega), Option.bind_some, if_pos rfl, if_pos rfl, if_pos rfl]; rfl
    · by_cases h1 : n < 0
      · rw [if_pos h1, if_neg h0, awake (by omega), Option.bind_some, if_pos rfl, if_pos rfl, if_pos rfl, if_neg h0, if_pos h1]; rfl
      · rw [if_neg h1, if_neg h0, awake (by omega), Option.bind_some, if_pos rfl, if_pos rfl, if_pos rfl, if_neg h0, if_neg h1]; rfl
  · rw [g_Inv a ha (by omega)] at hi
    rw [g_Pow a ha n hn.1 hn.2 (by omega)] at hp
    obtain rfl := Option.some.inj hi
    obtain rfl := Option.some.inj hp
    obtain ⟨k, rfl⟩ := fuel (show 0 < k by omega)
    rw [casematelaw02_GfReckons.j0, if_neg (gne ha), if_pos rfl, r2_Inv a (by omega), Option.bind_some, if_pos rfl]
    exact reck_j1 a ha n (by omega)
theorem GfReckons : casematelaw02_GfReckons.Pure := by
  intro x y n hx hy hn
  have wn := wf64 hn
  refine ⟨9000, ?_⟩
  unfold casematelaw02_GfReckons.f
  by_cases h1 : isEl x
  · obtain ⟨a, rfl⟩ := exists_el h1
    obtain ⟨i, hi⟩ : ∃ i, gf_Inv.f 9000 (gi a) = some i := by
      by_cases ha : a = 0
      · subst ha; exact ⟨_, g_Inv_zero _⟩
      · exact ⟨_, g_Inv a ha (by omega)⟩
    obtain ⟨p, hp⟩ : ∃ p, gf_Pow.f 9000 (gi a) n = some p := by
      by_cases ha : a = 0
      · subst ha; exact ⟨_, g_Pow_zero n (by omega)⟩
      · exact ⟨_, g_Pow a ha n wn.1 wn.2 (by omega)⟩
    have hj := reck_j0 a n (k := 9000) (by omega) wn i p hi hp
    by_cases h2 : isEl y
    · obtain ⟨b, rfl⟩ := exists_el h2
      rw [g_Mul a b (by omega), Option.bind_some, hi, Option.bind_some, hp, Option.bind_some, g_Exp n wn.1 wn.2 (by omega), Option.bind_some, r2_Exp n (by omega), Option.bind_some, if_pos rfl, r2_Is, Option.bind_some, if_pos (decide_eq_true h1), r2_Is, Option.bind_some, if_pos (decide_eq_true h2), if_pos rfl, r2_Mul a b (by omega), Option.bind_some, if_pos rfl]
      exact hj
    · rw [g_Mul_no _ _ (fun h => h2 h.2), Option.bind_some, hi, Option.bind_some, hp, Option.bind_some, g_Exp n wn.1 wn.2 (by omega), Option.bind_some, r2_Exp n (by omega), Option.bind_some, if_pos rfl, r2_Is, Option.bind_some, if_pos (decide_eq_true h1), r2_Is, Option.bind_some, if_neg (dno h2), if_pos rfl, if_pos rfl]
      exact hj
  · rw [g_Mul_no _ _ (fun h => h1 h.1), Option.bind_some, g_Inv_no x h1, Option.bind_some, g_Pow_no x n h1, Option.bind_some, g_Exp n wn.1 wn.2 (by omega), Option.bind_some, r2_Exp n (by omega), Option.bind_some, if_pos rfl, r2_Is, Option.bind_some, if_neg (dno h1), awake (by omega), Option.bind_some, if_pos rfl, if_pos rfl, if_pos rfl, if_pos rfl]
    simp [wrap64]
end Go.Proofs.Ytbpjhlkcolgmjaa.Pure

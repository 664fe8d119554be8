/- The pure statement of the law EccTorn: what the printed function of the law comes to is true at every input. No condition. -/
import Derived.Test.YtfpdloccmneabaaEcc
import Derived.Test.YtfpdloccmneabaaPx18
set_option linter.unusedVariables false
set_option linter.unusedSimpArgs false
namespace Go.Proofs.Ytfpdloccmneabaa.Pure
open Go Go.RowKit Go.Proofs.Ytfpdloccmneabaa.P Go.Proofs.YtfpdloccmneabaaW.PrintWords Go.Proofs.YtfpdloccmneabaaW.PrintLast Go.Proofs.YtfpdloccmneabaaW.PrintMore Go.Proofs.CsM Go.Proofs.Ytfpdloccmneabaa.L
theorem tor_l0 (x2 : Int) {L keep : Nat} (hL : L ≤ 100000) (a b s n t : Int) (hE : ∀ x : List Int, x.length = L → Byt x → (∀ j, keep ≤ j → j < L → x.getD j 0 = 255) → Evt fun k => casematelaw06_EccTorn.l0 k x2 x (L : Int) a b s n t = some true) :
    ∀ (e i : Nat) (x : List Int), i + e = L → keep ≤ i → x.length = L → Byt x → (∀ j, keep ≤ j → j < i → x.getD j 0 = 255) → Evt fun k => casematelaw06_EccTorn.l0 k x2 x (i : Int) a b s n t = some true
  | 0, i, x, hi, hk, hl, hx, hg => by
    have : i = L := by omega
    subst this
    exact hE x hl hx hg
  | e + 1, i, x, hi, hk, hl, hx, hg => by
    have e0 : wrap64 ((i : Int) + 1) = ((i + 1 : Nat) : Int) := by rw [w64 (by omega) (by omega)]; rfl
    refine (tor_l0 x2 hL a b s n t hE e (i + 1) (x.set i 255) (by clear e0; omega) (by clear e0; omega) (by rw [List.length_set]; exact hl) (hx.set i (by omega)) (fun j h1 h2 => by
      rw [getD_set (by clear e0; omega)]
      by_cases h : j = i
      · rw [if_pos h]
      · rw [if_neg h]; exact hg j h1 (by clear e0; omega))).step fun k q => ?_
    rw [casematelaw06_EccTorn.l0, if_pos (by clear e0; omega), if_pos (by clear e0; omega), Int.toNat_natCast, e0]
    exact q
theorem EccTorn (a b s n t : Int) (d : List Int) (hd : Byt d) (x2 : Int) : ∃ k, casematelaw06_EccTorn.f k a b s n t d x2 = some true := by
  refine Evt.get ?_
  have hT : Evt fun k => casematelaw06_EccTorn.j0 k d x2 true a b s n t = some true := Evt.of 0 fun k hk => by
    obtain ⟨k, rfl⟩ := fuel hk
    rw [casematelaw06_EccTorn.j0, if_pos rfl]
  by_cases hM : MayI a b s n t
  · obtain ⟨a, b, s, n, t, rfl, rfl, rfl, rfl, rfl, g⟩ := hM.geo
    by_cases hs : s * n ≤ 64
    · by_cases hl : d.length = s * n
      · obtain ⟨hR1, hR2⟩ := raw_len g hd hl
        have hw := g.sw
        have hjT : Evt fun k => casematelaw06_EccTorn.j1 k x2 (pk t n s d ++ [0]) 0 true a b s n t = some true := awake.step fun k q => by
          rw [casematelaw06_EccTorn.j1, if_pos rfl, q, Option.bind_some, if_pos rfl]; rfl
        have hjF : ¬ x2 < 0 → ¬ x2 ≥ ((s * wh n t + 1 : Nat) : Int) → Evt fun k => casematelaw06_EccTorn.j1 k x2 (pk t n s d ++ [0]) 0 false a b s n t = some true := fun h0 h1 => by
          obtain ⟨keep, rfl⟩ : ∃ keep : Nat, x2 = (keep : Int) := ⟨x2.toNat, by omega⟩
          have hl0 := tor_l0 (keep : Int) (L := s * wh n t + 1) (keep := keep) (by omega) a b s n t (fun x hxl hx hg => by
            refine ((g.unpack hx hxl).and ((g.read hx hxl).and awake)).step fun k ⟨q1, q2, q3⟩ => ?_
            have hlast : x.getD (s * wh n t) 0 = 255 := hg _ (by omega) (by omega)
            have hn0 : says s (wh n t) t x ≠ 0 := by
              unfold says
              rw [hlast, if_neg (by decide), if_pos rfl]
              split <;> decide
            rw [casematelaw06_EccTorn.l0, if_neg (by omega), q1, Option.bind_some, q2, Option.bind_some, q3, Option.bind_some, if_pos rfl, unp, if_neg hn0, rea, if_neg hn0]
            dsimp only
            by_cases hkp : (keep : Int) > 0
            · rcases says_cases s (wh n t) t x with h | h | h
              · exact absurd h hn0
              · rw [h, if_pos rfl, if_pos rfl, if_pos hkp]
              · rw [h, if_neg (by decide), if_pos rfl, if_pos (by omega), if_pos rfl, if_pos hkp]
            · have h61 : says s (wh n t) t x = 61 := by
                unfold says
                rw [hlast, if_neg (by decide), if_pos rfl, if_pos]
                refine few_true s 0 fun j _ hj => ?_
                have hlw := g.lew (show j < s by omega)
                have hsl := g.sg_length hxl (show j < s by omega)
                have hfull : cnt (fun i => !bitAt (sg (wh n t) x j) i) (8 * wh n t) = 0 := cnt_none fun i hi => by
                  have : i / 8 < wh n t := by omega
                  rw [full_bit (by rw [getD_sg this]; exact hg _ (by omega) (by omega))]; rfl
                have hc := cnt_not (bitAt (sg (wh n t) x j)) (8 * wh n t)
                unfold ones
                rw [hsl]
                omega
              rw [h61, if_neg (by decide), if_pos rfl, if_pos (by omega), if_pos rfl, if_neg hkp]; rfl)
            (s * wh n t + 1 - keep) keep (pk t n s d ++ [0]) (by omega) (Nat.le_refl _) hR1 hR2 (fun j h1 h2 => by omega)
          exact hl0.step fun k q => by rw [casematelaw06_EccTorn.j1, if_neg (by decide)]; exact q
        have hj0 : Evt fun k => casematelaw06_EccTorn.j0 k d x2 false a b s n t = some true := by
          by_cases h0 : x2 < 0
          · refine ((g.pack hd hl).and hjT).step fun k ⟨q1, q2⟩ => ?_
            rw [casematelaw06_EccTorn.j0, if_neg (by decide), q1, Option.bind_some, if_pos rfl, g.r_raw, Option.bind_some, if_pos (by rw [hR1]), if_pos h0]
            exact q2
          · by_cases h1 : x2 ≥ ((s * wh n t + 1 : Nat) : Int)
            · refine ((g.pack hd hl).and hjT).step fun k ⟨q1, q2⟩ => ?_
              rw [casematelaw06_EccTorn.j0, if_neg (by decide), q1, Option.bind_some, if_pos rfl, g.r_raw, Option.bind_some, if_pos (by rw [hR1]), if_neg h0, decide_eq_true (by rw [hR1]; exact h1)]
              exact q2
            · refine ((g.pack hd hl).and (hjF h0 h1)).step fun k ⟨q1, q2⟩ => ?_
              rw [casematelaw06_EccTorn.j0, if_neg (by decide), q1, Option.bind_some, if_pos rfl, g.r_raw, Option.bind_some, if_pos (by rw [hR1]), if_neg h0, decide_eq_false (by rw [hR1]; exact h1)]
              exact q2
        refine hj0.mono fun k h => ?_
        unfold casematelaw06_EccTorn.f
        rw [small_geo g, Option.bind_some, if_pos (decide_eq_true hs), r6_May, Option.bind_some, if_pos (decide_eq_true g.may), g.r_room, Option.bind_some, hl, bne_self]
        exact h
      · refine hT.mono fun k h => ?_
        unfold casematelaw06_EccTorn.f
        rw [small_geo g, Option.bind_some, if_pos (decide_eq_true hs), r6_May, Option.bind_some, if_pos (decide_eq_true g.may), g.r_room, Option.bind_some, show ((d.length : Int) != ((s * n : Nat) : Int)) = true from by rw [bne_iff_ne]; omega]
        exact h
    · refine hT.mono fun k h => ?_
      unfold casematelaw06_EccTorn.f
      rw [small_geo g, Option.bind_some, if_neg (by rw [decide_eq_false hs]; decide)]
      exact h
  · refine hT.mono fun k h => ?_
    unfold casematelaw06_EccTorn.f
    rw [small_no hM, Option.bind_some, if_pos rfl, r6_May, Option.bind_some, if_neg (by rw [decide_eq_false hM]; decide)]
    exact h
end Go.Proofs.Ytfpdloccmneabaa.Pure

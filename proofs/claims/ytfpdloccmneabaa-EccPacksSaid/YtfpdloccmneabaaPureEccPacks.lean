/- The pure statement of the law EccPacks: what the printed function of the law comes to is true at every input. No condition. -/
import Derived.Test.YtfpdloccmneabaaEcc
import Derived.Test.YtfpdloccmneabaaPx20
set_option linter.unusedVariables false
set_option linter.unusedSimpArgs false
namespace Go.Proofs.Ytfpdloccmneabaa.Pure
open Go Go.RowKit Go.Proofs.Ytfpdloccmneabaa.P Go.Proofs.YtfpdloccmneabaaW.PrintWords Go.Proofs.YtfpdloccmneabaaW.PrintLast Go.Proofs.YtfpdloccmneabaaW.PrintMore Go.Proofs.CsM Go.Proofs.Ytfpdloccmneabaa.L
theorem EccPacks (a b s n t : Int) (d : List Int) (hd : Byt d) : ∃ k, casematelaw06_EccPacks.f k a b s n t d = some true := by
  refine Evt.get ?_
  have hT : Evt fun k => casematelaw06_EccPacks.j0 k d true a b s n t = some true := Evt.of 0 fun k hk => by
    obtain ⟨k, rfl⟩ := fuel hk
    rw [casematelaw06_EccPacks.j0, if_pos rfl]
  by_cases hbig : d.length > 200
  · refine hT.mono fun k h => ?_
    unfold casematelaw06_EccPacks.f
    by_cases hM : MayI a b s n t
    · obtain ⟨a, b, s, n, t, rfl, rfl, rfl, rfl, rfl, g⟩ := hM.geo
      rw [small_geo g, Option.bind_some, show decide ((d.length : Int) > 200) = true from decide_eq_true (by omega)]
      split <;> exact h
    · rw [small_no hM, Option.bind_some, if_pos rfl, show decide ((d.length : Int) > 200) = true from decide_eq_true (by omega)]; exact h
  · by_cases hM : MayI a b s n t
    · obtain ⟨a, b, s, n, t, rfl, rfl, rfl, rfl, rfl, g⟩ := hM.geo
      by_cases hs : s * n ≤ 64
      · have hj : Evt fun k => casematelaw06_EccPacks.j0 k d false a b s n t = some true := by
          by_cases hl : d.length = s * n
          · have hR := raw_len g hd hl
            have hj1 : Evt fun k => casematelaw06_EccPacks.j1 k d ((s * n : Nat) : Int) (pk t n s d ++ [0]) 0 false a b s n t = some true := (awake.and (g.r_pack hd hl)).step fun k ⟨q1, q2⟩ => by
              rw [casematelaw06_EccPacks.j1, if_neg (by decide), if_pos (by rw [hl]), q1, Option.bind_some, if_pos rfl, if_pos rfl, q2, Option.bind_some, str_beq hR.2 hR.2, decide_eq_true rfl]
            refine ((g.pack hd hl).and hj1).step fun k ⟨q1, q2⟩ => ?_
            rw [casematelaw06_EccPacks.j0, if_neg (by decide), Option.bind_some, if_pos (by simp; omega), Option.bind_some, List.nil_append, c_Check, if_pos g.may, Option.bind_some, g.room, Option.bind_some, g.raw, Option.bind_some, q1, Option.bind_some, if_pos rfl, r6_May, Option.bind_some, if_pos (decide_eq_true g.may), if_pos rfl]
            dsimp only
            rw [if_pos rfl, if_pos rfl, g.r_room, Option.bind_some, if_pos rfl, g.r_raw, Option.bind_some, bne_self]
            exact q2
          · have hj1 : Evt fun k => casematelaw06_EccPacks.j1 k d ((s * n : Nat) : Int) [] 1 false a b s n t = some true := awake.step fun k q1 => by
              rw [casematelaw06_EccPacks.j1, if_neg (by decide), if_neg (by omega), q1, Option.bind_some, if_pos rfl, if_pos rfl]; rfl
            refine ((g.pack_no hl).and hj1).step fun k ⟨q1, q2⟩ => ?_
            rw [casematelaw06_EccPacks.j0, if_neg (by decide), Option.bind_some, if_pos (by simp; omega), Option.bind_some, List.nil_append, c_Check, if_pos g.may, Option.bind_some, g.room, Option.bind_some, g.raw, Option.bind_some, q1, Option.bind_some, if_pos rfl, r6_May, Option.bind_some, if_pos (decide_eq_true g.may), if_pos rfl]
            dsimp only
            rw [if_pos rfl, if_pos rfl, g.r_room, Option.bind_some, if_pos rfl, g.r_raw, Option.bind_some, bne_self]
            exact q2
        refine hj.mono fun k h => ?_
        unfold casematelaw06_EccPacks.f
        rw [small_geo g, Option.bind_some, if_pos (decide_eq_true hs), decide_eq_false (by omega)]
        exact h
      · refine hT.mono fun k h => ?_
        unfold casematelaw06_EccPacks.f
        rw [small_geo g, Option.bind_some, if_neg (by rw [decide_eq_false hs]; decide)]
        exact h
    · have hj : Evt fun k => casematelaw06_EccPacks.j0 k d false a b s n t = some true := ((pack_no (d := d) hM).and awake).step fun k ⟨q1, q2⟩ => by
        rw [casematelaw06_EccPacks.j0, if_neg (by decide), Option.bind_some, if_pos (by simp; omega), Option.bind_some, List.nil_append, c_Check, if_neg hM, Option.bind_some, no_room hM, Option.bind_some, no_raw hM, Option.bind_some, q1, Option.bind_some, if_pos rfl, r6_May, Option.bind_some, if_neg (by rw [decide_eq_false hM]; decide), q2, Option.bind_some, if_pos rfl, if_pos rfl]
        dsimp only
        rw [if_pos rfl, if_pos rfl, if_pos rfl]
        decide +kernel
      refine hj.mono fun k h => ?_
      unfold casematelaw06_EccPacks.f
      rw [small_no hM, Option.bind_some, if_pos rfl, decide_eq_false (by omega)]
      exact h
end Go.Proofs.Ytfpdloccmneabaa.Pure

/- The pure statement of the law EccUnpacks: what the printed function of the law comes to is true at every input. No condition. -/
import Derived.Test.YtfpdloccmneabaaEcc
import Derived.Test.YtfpdloccmneabaaPx22
set_option linter.unusedVariables false
set_option linter.unusedSimpArgs false
namespace Go.Proofs.Ytfpdloccmneabaa.Pure
open Go Go.RowKit Go.Proofs.Ytfpdloccmneabaa.P Go.Proofs.YtfpdloccmneabaaW.PrintWords Go.Proofs.YtfpdloccmneabaaW.PrintLast Go.Proofs.YtfpdloccmneabaaW.PrintMore Go.Proofs.CsM Go.Proofs.Ytfpdloccmneabaa.L
theorem sct_near {a b s n t : Nat} (g : Geo a b s n t) {R : List Int} (hR : Byt R) (hl : R.length = s * wh n t + 1) {i : Nat} (h : i < s) :
    (Evt fun k => casemateref06_Near.f k a b s n t R (i : Int) (sct t n (sg (wh n t) R i)).f0 (sct t n (sg (wh n t) R i)).f1 (sct t n (sg (wh n t) R i)).f2 = some true) ∧
    ((sct t n (sg (wh n t) R i)).f2 = 0 ∨ (sct t n (sg (wh n t) R i)).f2 = 50) := by
  have hsl := g.sg_length hl h
  have hS := sg_byt hR (wh n t) i
  have hW := g.wok hS hsl
  have hn := g.n4
  have h5 := g.n512
  have hwd : wh n t = n + mb t := rfl
  have hsec := g.r_sector hl h
  have hD := (dec_is hW).ok
  generalize sg (wh n t) R i = S at hsl hS hW hsec hD ⊢
  unfold sct
  generalize dec t (S.take n) (S.drop n) = D at hD ⊢
  obtain ⟨d2, m2, f1, f2⟩ := D
  rcases hD with ⟨N, h1, h2, h3, h4, hc, h6, h7⟩ | hD
  · simp only [Prod.mk.injEq] at h1
    obtain ⟨rfl, rfl⟩ := h1
    dsimp only at h3 h4 hc h6 h7 ⊢
    refine ⟨?_, .inl rfl⟩
    have hl1 : (S.take n).length = n := by rw [List.length_take]; omega
    rw [hl1] at h4
    have hwl2 : wl t d2 = wl t (S.take n) := by unfold wl; rw [h4, hl1]
    have hwl := hW.wl_le
    have he := g.enc h3.hd h4
    have hu := he.2.unique g.t8 h3.hm h3.ml h6 hc
    have hr := r5_Encode g.t1 g.t8 h3.hd h3.d1 h3.d512 he.2
    rw [← hu] at hr
    have hap := r5_Apart (wlist_bt t (S.take n) (S.drop n)).1 (wlist_bt t d2 m2).1 (by rw [wlist_length]; omega) (by rw [wlist_length, wlist_length, hwl2])
    rw [(wlist_bt t (S.take n) (S.drop n)).2, (wlist_bt t d2 m2).2, wlist_length, h7] at hap
    have hj : Evt fun k => casemateref06_Near.j0 k S false a b s n t d2 (N : Int) 0 = some true := ((r5_Word hW).and (hr.and ((r5_Word h3).and hap))).step fun k ⟨q1, q2, q3, q4⟩ => by
      rw [casemateref06_Near.j0, if_neg (by decide), if_pos (by omega), if_pos (by omega), Int.toNat_natCast, q1, Option.bind_some, q2, Option.bind_some, q3, Option.bind_some, q4, Option.bind_some]
      simp
    refine hj.mono fun k q => ?_
    unfold casemateref06_Near.f
    rw [hsec, Option.bind_some, if_pos rfl, if_pos (by rw [h4]), if_neg (by omega), decide_eq_false (by omega)]
    exact q
  · simp only [Prod.mk.injEq] at hD
    obtain ⟨rfl, rfl, rfl, rfl⟩ := hD
    refine ⟨Evt.all fun k => ?_, .inr rfl⟩
    unfold casemateref06_Near.f
    rw [hsec, Option.bind_some, if_neg (by decide), if_pos rfl]; rfl
theorem upk_l0 {a b s n t : Nat} (g : Geo a b s n t) {R : List Int} (hR : Byt R) (hl : R.length = s * wh n t + 1) (y : List Int) (q e : Int) : ∀ (m i : Nat) (x : List Int) (v : Int) (bad : Bool), i + m = s → x.length ≤ 1000 * i →
    (bad = false → rdl (scts t n (wh n t) R m i) x v = (y, q, e)) → (bad = true → (y, q, e) = (([] : List Int), (0 : Int), (50 : Int))) →
    Evt fun k => casematelaw06_EccUnpacks.l0 k R (scts t n (wh n t) R s 0) y q e x v bad (i : Int) a b s n t = some true
  | 0, i, x, v, bad, hi, hx, h0, h1 => awake.step fun k w => by
    rw [casematelaw06_EccUnpacks.l0, if_neg (by rw [scts_length]; omega)]
    cases bad with
    | false =>
      have := h0 rfl
      rw [scts, rdl] at this
      simp only [Prod.mk.injEq] at this
      obtain ⟨rfl, rfl, rfl⟩ := this
      rw [if_neg (by decide), w, Option.bind_some, if_pos rfl, if_pos rfl, if_pos rfl]; simp
    | true =>
      have := h1 rfl
      simp only [Prod.mk.injEq] at this
      obtain ⟨rfl, rfl, rfl⟩ := this
      rw [if_pos rfl, w, Option.bind_some, if_pos rfl, if_pos rfl]; decide +kernel
  | m + 1, i, x, v, bad, hi, hx, h0, h1 => by
    have e0 : wrap64 ((i : Int) + 1) = ((i + 1 : Nat) : Int) := by have := g.s8; rw [w64 (by omega) (by omega)]; rfl
    have hlt : i < s := by clear e0; omega
    obtain ⟨hn, hf⟩ := sct_near g hR hl hlt
    have hget := scts_get t n (wh n t) R s 0 i hlt
    rw [Nat.zero_add] at hget
    have hlen : (sct t n (sg (wh n t) R i)).f0.length ≤ 512 := dec_len (g.wok (sg_byt hR _ _) (g.sg_length hl hlt))
    have hs8 := g.s8
    have hx2 : (x ++ (sct t n (sg (wh n t) R i)).f0).length ≤ 1000 * (i + 1) := by rw [List.length_append]; clear e0; omega
    cases bad with
    | true =>
      refine (hn.and (upk_l0 g hR hl y q e m (i + 1) (x ++ (sct t n (sg (wh n t) R i)).f0) (mx v (sct t n (sg (wh n t) R i)).f1) true (by clear e0; omega) hx2 (fun h => by cases h) (fun _ => h1 rfl))).step fun k ⟨q1, q2⟩ => ?_
      rw [casematelaw06_EccUnpacks.l0, if_pos (by rw [scts_length]; clear e0; omega), if_pos (by clear e0; omega), hget, q1, Option.bind_some, if_pos rfl, if_pos rfl, if_pos (by clear e0; omega), e0]
      exact q2
    | false =>
      have hr := h0 rfl
      rw [scts, rdl] at hr
      rcases hf with hf | hf
      · rw [if_pos hf] at hr
        refine (hn.and (upk_l0 g hR hl y q e m (i + 1) (x ++ (sct t n (sg (wh n t) R i)).f0) (mx v (sct t n (sg (wh n t) R i)).f1) false (by clear e0; omega) hx2 (fun _ => hr) (fun h => by cases h))).step fun k ⟨q1, q2⟩ => ?_
        rw [casematelaw06_EccUnpacks.l0, if_pos (by rw [scts_length]; clear e0; omega), if_pos (by clear e0; omega), hget, q1, Option.bind_some, if_pos rfl, if_neg (by decide), if_pos (by clear e0; omega), e0, show ((sct t n (sg (wh n t) R i)).f2 != 0) = false from by rw [hf]; rfl]
        exact q2
      · rw [if_neg (by rw [hf]; decide), hf] at hr
        refine (hn.and (upk_l0 g hR hl y q e m (i + 1) (x ++ (sct t n (sg (wh n t) R i)).f0) (mx v (sct t n (sg (wh n t) R i)).f1) true (by clear e0; omega) hx2 (fun h => by cases h) (fun _ => hr.symm))).step fun k ⟨q1, q2⟩ => ?_
        rw [casematelaw06_EccUnpacks.l0, if_pos (by rw [scts_length]; clear e0; omega), if_pos (by clear e0; omega), hget, q1, Option.bind_some, if_pos rfl, if_neg (by decide), if_pos (by clear e0; omega), e0, show ((sct t n (sg (wh n t) R i)).f2 != 0) = true from by rw [hf]; rfl]
        exact q2
theorem upk_bad {a b s n t : Int} {R : List Int} (x : List S39) : Evt fun k => casematelaw06_EccUnpacks.j1 k R [] 1 [] 0 1 true a b s n t = some true := awake.step fun k q => by
  rw [casematelaw06_EccUnpacks.j1, if_pos rfl, q, Option.bind_some, if_pos rfl, if_pos rfl, if_pos rfl]; decide +kernel
theorem EccUnpacks (a b s n t : Int) (R : List Int) (hR : Byt R) : ∃ k, casematelaw06_EccUnpacks.f k a b s n t R = some true := by
  refine Evt.get ?_
  have hT : Evt fun k => casematelaw06_EccUnpacks.j0 k R true a b s n t = some true := Evt.of 0 fun k hk => by
    obtain ⟨k, rfl⟩ := fuel hk
    rw [casematelaw06_EccUnpacks.j0, if_pos rfl]
  by_cases hbig : R.length > 400
  · refine hT.mono fun k h => ?_
    unfold casematelaw06_EccUnpacks.f
    by_cases hM : MayI a b s n t
    · obtain ⟨a, b, s, n, t, rfl, rfl, rfl, rfl, rfl, g⟩ := hM.geo
      rw [small_geo g, Option.bind_some, show decide ((R.length : Int) > 400) = true from decide_eq_true (by omega)]
      split <;> exact h
    · rw [small_no hM, Option.bind_some, if_pos rfl, show decide ((R.length : Int) > 400) = true from decide_eq_true (by omega)]; exact h
  · by_cases hM : MayI a b s n t
    · obtain ⟨a, b, s, n, t, rfl, rfl, rfl, rfl, rfl, g⟩ := hM.geo
      by_cases hs : s * n ≤ 64
      · have hj : Evt fun k => casematelaw06_EccUnpacks.j0 k R false a b s n t = some true := by
          by_cases hl : R.length = s * wh n t + 1
          · have hj1 : Evt fun k => casematelaw06_EccUnpacks.j1 k R (unp s n t R).1 (unp s n t R).2 (rea s n t R).1 (rea s n t R).2.1 (rea s n t R).2.2 false a b s n t = some true := by
              by_cases h0 : says s (wh n t) t R = 0
              · have hu : unp s n t R = (scts t n (wh n t) R s 0, 0) := if_pos h0
                have hre : rea s n t R = rdl (scts t n (wh n t) R s 0) [] 0 := if_pos h0
                have hl0 := upk_l0 g hR hl (rea s n t R).1 (rea s n t R).2.1 (rea s n t R).2.2 s 0 [] 0 false (by omega) (by simp) (fun _ => hre.symm) (fun h => by cases h)
                have hj2 : Evt fun k => casematelaw06_EccUnpacks.j2 k R (scts t n (wh n t) R s 0) (rea s n t R).1 (rea s n t R).2.1 (rea s n t R).2.2 false a b s n t = some true := hl0.step fun k q => by
                  rw [casematelaw06_EccUnpacks.j2, if_neg (by decide)]; exact q
                refine ((g.marked hR hl).and hj2).step fun k ⟨q1, q2⟩ => ?_
                rw [casematelaw06_EccUnpacks.j1, if_neg (by decide), q1, Option.bind_some, if_pos h0, hu]
                dsimp only
                rw [if_pos rfl, scts_length, bne_self]
                exact q2
              · have hu : unp s n t R = ([], says s (wh n t) t R) := if_neg h0
                have hre : rea s n t R = ([], 0, says s (wh n t) t R) := if_neg h0
                refine ((g.marked hR hl).and awake).step fun k ⟨q1, q2⟩ => ?_
                rw [casematelaw06_EccUnpacks.j1, if_neg (by decide), q1, Option.bind_some, if_neg h0, hu, hre, q2, Option.bind_some, if_pos rfl]
                dsimp only
                rw [if_pos rfl, if_pos rfl]; decide +kernel
            refine ((g.unpack hR hl).and ((g.read hR hl).and hj1)).step fun k ⟨q1, q2, q3⟩ => ?_
            rw [casematelaw06_EccUnpacks.j0, if_neg (by decide), Option.bind_some, if_pos (by simp; omega), Option.bind_some, List.nil_append, q1, Option.bind_some, q2, Option.bind_some, if_pos rfl, r6_May, Option.bind_some, if_pos (decide_eq_true g.may), g.r_raw, Option.bind_some, show ((R.length : Int) != ((s * wh n t + 1 : Nat) : Int)) = false from by rw [hl]; simp]
            exact q3
          · have hu := g.unpack_no hl
            refine (hu.and ((read_no hu).and (upk_bad (R := R) (a := a) (b := b) (s := s) (n := n) (t := t) []))).step fun k ⟨q1, q2, q3⟩ => ?_
            rw [casematelaw06_EccUnpacks.j0, if_neg (by decide), Option.bind_some, if_pos (by simp; omega), Option.bind_some, List.nil_append, q1, Option.bind_some, q2, Option.bind_some, if_pos rfl, r6_May, Option.bind_some, if_pos (decide_eq_true g.may), g.r_raw, Option.bind_some, show ((R.length : Int) != ((s * wh n t + 1 : Nat) : Int)) = true from by rw [bne_iff_ne]; omega]
            exact q3
        refine hj.mono fun k h => ?_
        unfold casematelaw06_EccUnpacks.f
        rw [small_geo g, Option.bind_some, if_pos (decide_eq_true hs), decide_eq_false (by omega)]
        exact h
      · refine hT.mono fun k h => ?_
        unfold casematelaw06_EccUnpacks.f
        rw [small_geo g, Option.bind_some, if_neg (by rw [decide_eq_false hs]; decide)]
        exact h
    · have hu := unpack_no (R := R) hM
      have hj : Evt fun k => casematelaw06_EccUnpacks.j0 k R false a b s n t = some true := (hu.and ((read_no hu).and (upk_bad (R := R) (a := a) (b := b) (s := s) (n := n) (t := t) []))).step fun k ⟨q1, q2, q3⟩ => by
        rw [casematelaw06_EccUnpacks.j0, if_neg (by decide), Option.bind_some, if_pos (by simp; omega), Option.bind_some, List.nil_append, q1, Option.bind_some, q2, Option.bind_some, if_pos rfl, r6_May, Option.bind_some, if_neg (by rw [decide_eq_false hM]; decide)]
        exact q3
      refine hj.mono fun k h => ?_
      unfold casematelaw06_EccUnpacks.f
      rw [small_no hM, Option.bind_some, if_pos rfl, decide_eq_false (by omega)]
      exact h
end Go.Proofs.Ytfpdloccmneabaa.Pure

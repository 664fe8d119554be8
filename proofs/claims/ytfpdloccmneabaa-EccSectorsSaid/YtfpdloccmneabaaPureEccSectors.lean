/- The pure statement of the law EccSectors: what the printed function of the law comes to is true at every input. No condition. -/
import Derived.Test.YtfpdloccmneabaaEcc
import Derived.Test.YtfpdloccmneabaaPx20
set_option linter.unusedVariables false
set_option linter.unusedSimpArgs false
namespace Go.Proofs.Ytfpdloccmneabaa.Pure
open Go Go.RowKit Go.Proofs.Ytfpdloccmneabaa.P Go.Proofs.YtfpdloccmneabaaW.PrintWords Go.Proofs.YtfpdloccmneabaaW.PrintLast Go.Proofs.YtfpdloccmneabaaW.PrintMore Go.Proofs.CsM Go.Proofs.Ytfpdloccmneabaa.L
theorem get_of_getD {l l' : List Int} (hl : l.length = l'.length) {x : Nat} (h : l.getD x 0 = l'.getD x 0) : l[x]? = l'[x]? := by
  by_cases hx : x < l.length
  · rw [List.getElem?_eq_getElem hx, List.getElem?_eq_getElem (by omega)]
    rw [List.getD_eq_getElem?_getD, List.getD_eq_getElem?_getD, List.getElem?_eq_getElem hx, List.getElem?_eq_getElem (by omega)] at h
    exact congrArg some h
  · rw [List.getElem?_eq_none (by omega), List.getElem?_eq_none (by omega)]
theorem sg_congr {w i : Nat} {R R' : List Int} (hl : R.length = R'.length) (h : ∀ j, j < w → R.getD (i * w + j) 0 = R'.getD (i * w + j) 0) : sg w R i = sg w R' i := by
  unfold sg
  refine List.ext_getElem? fun k => ?_
  rw [List.getElem?_take, List.getElem?_take]
  by_cases hk : k < w
  · rw [if_pos hk, if_pos hk, List.getElem?_drop, List.getElem?_drop]
    exact get_of_getD hl (h k hk)
  · rw [if_neg hk, if_neg hk]
theorem dec_clean {a b s n t : Nat} (g : Geo a b s n t) {D : List Int} (hD : Byt D) (hl : D.length = n) : dec t D (encm t D) = (D, encm t D, 0, 0) := by
  have he := (g.enc hD hl).2
  have hW : Wok t D (encm t D) := he.wok g.t1 g.t8 hD (by have := g.n4; omega) (by have := g.n512; omega)
  have hz : cnt (0 : Ser Bool).c (wl t D) = 0 := cnt_none fun i _ => rfl
  have h := corrects hW (he.code g.t8) he.up hW rfl 0 (fun i _ => rfl) (by rw [R2.add_zero]) (by rw [hz]; exact Nat.zero_le _)
  rw [hz] at h
  exact dec_run hW h
theorem sct_clean {a b s n t : Nat} (g : Geo a b s n t) {D : List Int} (hD : Byt D) (hl : D.length = n) : sct t n (D ++ encm t D) = ⟨D, 0, 0⟩ := by
  unfold sct
  rw [List.take_left' hl, List.drop_left' hl, dec_clean g hD hl]
theorem sec_l1 {a b s n t : Nat} (g : Geo a b s n t) {d : List Int} (hd : Byt d) (hl : d.length = s * n) {R : List Int} {sec : Nat} (hc : ∀ i, i < s → i ≠ sec → sct t n (sg (wh n t) R i) = ⟨(d.drop (i * n)).take n, 0, 0⟩) :
    ∀ (m i : Nat), i + m = s → Evt fun k => casematelaw06_EccSectors.l1 k d (sec : Int) (scts t n (wh n t) R s 0) (i : Int) a b s n t = some true
  | 0, i, hi => awake.step fun k q => by
    rw [casematelaw06_EccSectors.l1, if_neg (by rw [scts_length]; omega), q, Option.bind_some]
  | m + 1, i, hi => by
    have hs8 := g.s8
    have hsn := g.sn
    have e0 : wrap64 ((i : Int) + 1) = ((i + 1 : Nat) : Int) := by rw [w64 (by omega) (by omega)]; rfl
    have hlt : i < s := by clear e0; omega
    have hget := scts_get t n (wh n t) R s 0 i hlt
    rw [Nat.zero_add] at hget
    refine (sec_l1 g hd hl hc m (i + 1) (by clear e0; omega)).step fun k q => ?_
    by_cases he : i = sec
    · rw [casematelaw06_EccSectors.l1, if_pos (by rw [scts_length]; clear e0; omega), if_pos (by clear e0; omega), e0]
      exact q
    · have hle : (i + 1) * n ≤ s * n := Nat.mul_le_mul_right _ (by clear e0; omega)
      have hie : (i + 1) * n = i * n + n := Nat.succ_mul i n
      have e1 : wrap64 ((i : Int) * (n : Int)) = ((i * n : Nat) : Int) := mulw (by clear e0; omega)
      have e2 : wrap64 (((i + 1 : Nat) : Int) * (n : Int)) = (((i + 1) * n : Nat) : Int) := mulw (by clear e0 e1; omega)
      rw [casematelaw06_EccSectors.l1, if_pos (by rw [scts_length]; clear e0 e1 e2; omega), if_neg (by clear e0 e1 e2; omega), if_pos (by clear e0 e1 e2; omega), hget, hc i hlt he]
      dsimp only
      rw [if_pos rfl, if_pos rfl, e0, e1, e2, if_pos (by clear e0 e1 e2; omega), if_pos (by clear e0 e1 e2; omega), if_pos (by clear e0 e1 e2; omega), Int.toNat_natCast, Int.toNat_natCast, List.drop_take, show (i + 1) * n - i * n = n from by clear e0 e1 e2; omega, if_pos rfl]
      exact q
theorem sec_l0 {a b s n t : Nat} (g : Geo a b s n t) (d : List Int) {sec : Nat} (hs : sec < s) {z : List Int} (hz : Byt z) {R0 : List Int} (hR0 : R0.length = s * wh n t + 1) (hE : ∀ x : List Int, x.length = s * wh n t + 1 → Byt x → (∀ j, (j < sec * wh n t ∨ sec * wh n t + wh n t ≤ j) → x.getD j 0 = R0.getD j 0) → Evt fun k => casematelaw06_EccSectors.j3 k d (sec : Int) x a b s n t = some true) :
    ∀ (e i : Nat) (x : List Int), i + e = wh n t → x.length = s * wh n t + 1 → Byt x → (∀ j, (j < sec * wh n t ∨ sec * wh n t + wh n t ≤ j) → x.getD j 0 = R0.getD j 0) → Evt fun k => casematelaw06_EccSectors.l0 k d (sec : Int) z x (wh n t : Int) (i : Int) a b s n t = some true
  | 0, i, x, hi, hl, hx, hg => (hE x hl hx hg).step fun k q => by
    rw [casematelaw06_EccSectors.l0, if_neg (by omega)]; exact q
  | e + 1, i, x, hi, hl, hx, hg => by
    have hw := g.lew hs
    have hw5 := g.wh_le
    have hsw := g.sw
    by_cases hzl : i < z.length
    · have e0 : wrap64 ((i : Int) + 1) = ((i + 1 : Nat) : Int) := by rw [w64 (by omega) (by omega)]; rfl
      have e1 : wrap64 (wrap64 ((sec : Int) * (wh n t : Int)) + (i : Int)) = ((sec * wh n t + i : Nat) : Int) := by
        rw [mulw (by clear e0; omega), L.cst_add (by clear e0; omega)]
      refine (sec_l0 g d hs hz hR0 hE e (i + 1) (x.set (sec * wh n t + i) (z.getD i 0)) (by clear e0 e1; omega) (by rw [List.length_set]; exact hl) (hx.set _ (hz.get i)) (fun j hj => by
        rw [getD_set (by clear e0 e1; omega), if_neg (by clear e0 e1; omega)]; exact hg j hj)).step fun k q => ?_
      rw [casematelaw06_EccSectors.l0, if_pos (by clear e0 e1; omega), if_pos (by clear e0 e1; omega), if_pos (by clear e0 e1; omega), e1, if_pos (by clear e0 e1; omega), if_pos (by clear e0 e1; omega), Int.toNat_natCast, rd_nat, e0]
      exact q
    · refine (hE x hl hx hg).step fun k q => ?_
      rw [casematelaw06_EccSectors.l0, if_pos (by omega), if_neg (by omega)]; exact q
theorem EccSectors (a b s n t : Int) (d : List Int) (hd : Byt d) (x2 : Int) (z : List Int) (hz : Byt z) : ∃ k, casematelaw06_EccSectors.f k a b s n t d x2 z = some true := by
  refine Evt.get ?_
  have hT : Evt fun k => casematelaw06_EccSectors.j0 k d x2 z true a b s n t = some true := Evt.of 0 fun k hk => by
    obtain ⟨k, rfl⟩ := fuel hk
    rw [casematelaw06_EccSectors.j0, if_pos rfl]
  by_cases hM : MayI a b s n t
  · obtain ⟨a, b, s, n, t, rfl, rfl, rfl, rfl, rfl, g⟩ := hM.geo
    by_cases hs : s * n ≤ 64
    · by_cases hl : d.length = s * n
      · by_cases h0 : x2 < 0
        · refine hT.mono fun k h => ?_
          unfold casematelaw06_EccSectors.f
          rw [small_geo g, Option.bind_some, if_pos (decide_eq_true hs), r6_May, Option.bind_some, if_pos (decide_eq_true g.may), g.r_room, Option.bind_some, if_pos (by rw [hl]), if_pos h0]
          exact h
        · by_cases h1 : x2 ≥ (s : Int)
          · refine hT.mono fun k h => ?_
            unfold casematelaw06_EccSectors.f
            rw [small_geo g, Option.bind_some, if_pos (decide_eq_true hs), r6_May, Option.bind_some, if_pos (decide_eq_true g.may), g.r_room, Option.bind_some, if_pos (by rw [hl]), if_neg h0, decide_eq_true h1]
            exact h
          · obtain ⟨sec, rfl⟩ : ∃ sec : Nat, x2 = (sec : Int) := ⟨x2.toNat, by omega⟩
            have hsec : sec < s := by omega
            obtain ⟨hR1, hR2⟩ := raw_len g hd hl
            have hsw := g.sw
            have hlast : (pk t n s d ++ [0]).getD (s * wh n t) 0 = 0 := by
              rw [List.getD_eq_getElem?_getD, List.getElem?_append_right (by rw [(g.pk_length s d hd hl).1]; exact Nat.le_refl _), (g.pk_length s d hd hl).1, Nat.sub_self]; rfl
            have hlw := g.lew hsec
            have hl0 := sec_l0 g d hsec hz hR1 (fun x hxl hx hg => by
              have hsay : says s (wh n t) t x = 0 := by
                unfold says
                rw [if_pos ((hg (s * wh n t) (.inr (by omega))).trans hlast)]
              have hc : ∀ i, i < s → i ≠ sec → sct t n (sg (wh n t) x i) = ⟨(d.drop (i * n)).take n, 0, 0⟩ := fun i hi hne => by
                have hli := g.lew hi
                have heq : sg (wh n t) x i = sg (wh n t) (pk t n s d ++ [0]) i := sg_congr (by rw [hxl, hR1]) fun j hj => hg _ (by
                  rcases Nat.lt_or_gt_of_ne hne with h | h
                  · exact .inl (by have := Nat.mul_le_mul_right (wh n t) (show i + 1 ≤ sec from h); omega)
                  · exact .inr (by have := Nat.mul_le_mul_right (wh n t) (show sec + 1 ≤ i from h); omega))
                have hle : (i + 1) * n ≤ s * n := Nat.mul_le_mul_right _ (by omega)
                have hie : (i + 1) * n = i * n + n := Nat.succ_mul i n
                rw [heq, show sg (wh n t) (pk t n s d ++ [0]) i = _ from g.pk_seg s d hd hl i hi [0]]
                exact sct_clean g ((hd.drop _).take _) (by rw [List.length_take, List.length_drop]; omega)
              have hj4 : Evt fun k => casematelaw06_EccSectors.j4 k d (sec : Int) (scts t n (wh n t) x s 0) false a b s n t = some true := (sec_l1 g hd hl hc s 0 (by omega)).step fun k q => by
                rw [casematelaw06_EccSectors.j4, if_neg (by decide)]; exact q
              refine ((g.unpack hx hxl).and hj4).step fun k ⟨q1, q2⟩ => ?_
              rw [casematelaw06_EccSectors.j3, q1, Option.bind_some, unp, if_pos hsay]
              dsimp only
              rw [if_pos rfl, scts_length, bne_self]
              exact q2) (wh n t) 0 (pk t n s d ++ [0]) (by omega) hR1 hR2 (fun j _ => rfl)
            have hj1 : Evt fun k => casematelaw06_EccSectors.j1 k d (sec : Int) z (pk t n s d ++ [0]) false a b s n t = some true := hl0.step fun k q => by
              rw [casematelaw06_EccSectors.j1, if_neg (by decide), g.r_whole, Option.bind_some]; exact q
            have hj0 : Evt fun k => casematelaw06_EccSectors.j0 k d (sec : Int) z false a b s n t = some true := ((g.pack hd hl).and hj1).step fun k ⟨q1, q2⟩ => by
              rw [casematelaw06_EccSectors.j0, if_neg (by decide), q1, Option.bind_some, if_pos rfl, g.r_raw, Option.bind_some, hR1, bne_self]
              exact q2
            refine hj0.mono fun k h => ?_
            unfold casematelaw06_EccSectors.f
            rw [small_geo g, Option.bind_some, if_pos (decide_eq_true hs), r6_May, Option.bind_some, if_pos (decide_eq_true g.may), g.r_room, Option.bind_some, if_pos (by rw [hl]), if_neg h0, decide_eq_false h1]
            exact h
      · refine hT.mono fun k h => ?_
        unfold casematelaw06_EccSectors.f
        rw [small_geo g, Option.bind_some, if_pos (decide_eq_true hs), r6_May, Option.bind_some, if_pos (decide_eq_true g.may), g.r_room, Option.bind_some, if_neg (by omega)]
        exact h
    · refine hT.mono fun k h => ?_
      unfold casematelaw06_EccSectors.f
      rw [small_geo g, Option.bind_some, if_neg (by rw [decide_eq_false hs]; decide)]
      exact h
  · refine hT.mono fun k h => ?_
    unfold casematelaw06_EccSectors.f
    rw [small_no hM, Option.bind_some, if_pos rfl, r6_May, Option.bind_some, if_neg (by rw [decide_eq_false hM]; decide)]
    exact h
end Go.Proofs.Ytfpdloccmneabaa.Pure

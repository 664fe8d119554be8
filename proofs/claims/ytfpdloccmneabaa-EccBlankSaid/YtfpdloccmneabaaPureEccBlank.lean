/- The pure statement of the law EccBlank: what the printed function of the law comes to is true at every input. No condition. -/
import Derived.Test.YtfpdloccmneabaaEcc
import Derived.Test.YtfpdloccmneabaaPx20
set_option linter.unusedVariables false
set_option linter.unusedSimpArgs false
namespace Go.Proofs.Ytfpdloccmneabaa.Pure
open Go Go.RowKit Go.Proofs.Ytfpdloccmneabaa.P Go.Proofs.YtfpdloccmneabaaW.PrintWords Go.Proofs.YtfpdloccmneabaaW.PrintLast Go.Proofs.YtfpdloccmneabaaW.PrintMore Go.Proofs.CsM Go.Proofs.Ytfpdloccmneabaa.L
theorem sub_check : allb (fun c => !((c % 256).testBit (c / 256)) || (let r := (((c % 256 : Nat) : Int) - ((2 ^ (c / 256) : Nat) : Int)) % 256; decide (0 ≤ r) && decide (r < 256) && allb (fun i => r.toNat.testBit i == ((c % 256).testBit i && !(i == c / 256))) 3 0)) 11 0 = true := by decide +kernel
theorem sub_u8 {x : Int} (hx : 0 ≤ x ∧ x < 256) {j : Nat} (hj : j < 8) (hb : x.toNat.testBit j = true) : (0 ≤ (x - ((2 ^ j : Nat) : Int)) % 256 ∧ (x - ((2 ^ j : Nat) : Int)) % 256 < 256) ∧ ∀ i, i < 8 → ((x - ((2 ^ j : Nat) : Int)) % 256).toNat.testBit i = (x.toNat.testBit i && !(i == j)) := by
  obtain ⟨a, rfl⟩ := Int.eq_ofNat_of_zero_le hx.1
  have h := allb_sound 11 0 sub_check (a + 256 * j) (Nat.zero_le _) (by omega)
  rw [show (a + 256 * j) % 256 = a from by omega, show (a + 256 * j) / 256 = j from by omega] at h
  rw [Int.toNat_natCast] at hb
  rw [hb] at h
  simp only [Bool.not_true, Bool.false_or, Bool.and_eq_true, decide_eq_true_eq] at h
  refine ⟨h.1, fun i hi => ?_⟩
  have := allb_sound 3 0 h.2 i (Nat.zero_le _) (by omega)
  rw [Int.toNat_natCast]
  exact eq_of_beq this
theorem cnt_span {f n m : Nat} (h : f + n ≤ m) : cnt (fun j => decide (f ≤ j) && decide (j < f + n)) m = n := by
  obtain ⟨r, rfl⟩ : ∃ r, m = f + (n + r) := ⟨m - (f + n), by omega⟩
  rw [cnt_add, cnt_add, cnt_none fun i hi => by rw [decide_eq_false (show ¬ f ≤ i by omega), Bool.false_and]]
  have h1 := cnt_not (fun i => decide (f ≤ f + i) && decide (f + i < f + n)) n
  rw [cnt_none fun i hi => by rw [decide_eq_true (show f ≤ f + i by omega), decide_eq_true (show f + i < f + n by omega)]; rfl] at h1
  have h2 : cnt (fun i => decide (f ≤ f + (n + i)) && decide (f + (n + i) < f + n)) r = 0 := cnt_none fun i hi => by
    rw [decide_eq_false (show ¬ f + (n + i) < f + n by omega), Bool.and_false]
  rw [h2]
  omega
/-- All ones, but for n bits from P on, the mark among the ones. -/
structure BlkI (L sw P n : Nat) (x : List Int) : Prop where
  len : x.length = L
  byt : Byt x
  last : x.getD sw 0 = 255
  bit : ∀ j, j < 8 * sw → bitAt x j = !(decide (P ≤ j) && decide (j < P + n))
theorem BlkI.says {a b s n t : Nat} (g : Geo a b s n t) {sec fr m : Nat} {x : List Int} (hsec : sec < s) (hfr : fr + m ≤ 8 * wh n t) (h : BlkI (s * wh n t + 1) (s * wh n t) (8 * (sec * wh n t) + fr) m x) : L.says s (wh n t) t x = if m ≤ t then 61 else 60 := by
  have hw := g.lew hsec
  have hno : ∀ i, i < s → 8 * wh n t - ones (sg (wh n t) x i) = if i = sec then m else 0 := fun i hi => by
    have hwi := g.lew hi
    have hc := cnt_not (bitAt (sg (wh n t) x i)) (8 * wh n t)
    unfold ones
    rw [g.sg_length h.len hi]
    have hz : cnt (fun j => !bitAt (sg (wh n t) x i) j) (8 * wh n t) = if i = sec then m else 0 := by
      by_cases e : i = sec
      · subst e
        rw [if_pos rfl, ← cnt_span hfr]
        refine cnt_congr fun j hj => ?_
        rw [bitAt_sg hj, h.bit _ (by omega), Bool.not_not]
        rw [show decide (8 * (i * wh n t) + fr ≤ 8 * (i * wh n t) + j) = decide (fr ≤ j) from decide_eq_decide.2 (by omega), show decide (8 * (i * wh n t) + j < 8 * (i * wh n t) + fr + m) = decide (j < fr + m) from decide_eq_decide.2 (by omega)]
      · rw [if_neg e]
        refine cnt_none fun j hj => ?_
        rw [bitAt_sg hj, h.bit _ (by omega), Bool.not_not]
        rcases Nat.lt_or_gt_of_ne e with h1 | h1
        · have := Nat.mul_le_mul_right (wh n t) (show i + 1 ≤ sec from h1)
          rw [decide_eq_false (show ¬ 8 * (sec * wh n t) + fr ≤ 8 * (i * wh n t) + j by omega), Bool.false_and]
        · have := Nat.mul_le_mul_right (wh n t) (show sec + 1 ≤ i from h1)
          rw [decide_eq_false (show ¬ 8 * (i * wh n t) + j < 8 * (sec * wh n t) + fr + m by omega), Bool.and_false]
    rw [hz] at hc
    omega
  unfold L.says
  rw [h.last, if_neg (by decide), if_pos rfl]
  by_cases hm : m ≤ t
  · rw [if_pos hm, if_pos (few_true s 0 fun j _ hj => by
      rw [hno j (by omega)]
      split <;> omega)]
  · rw [if_neg hm, if_neg (by
      rw [few_false s 0 sec (Nat.zero_le _) (by omega) (by rw [hno sec hsec, if_pos rfl]; omega)]; decide)]
theorem blk_l1 {a b s n t : Nat} (g : Geo a b s n t) {sec fr : Nat} (hsec : sec < s) (hfr : fr + t < 8 * wh n t) :
    ∀ (e m : Nat) (x : List Int), m + e = t + 1 → BlkI (s * wh n t + 1) (s * wh n t) (8 * (sec * wh n t) + fr) m x → Evt fun k => casematelaw06_EccBlank.l1 k (sec : Int) (fr : Int) x (m : Int) a b s n t = some true
  | 0, m, x, hm, hx => by
    have : m = t + 1 := by omega
    subst this
    have hsay := hx.says g hsec (by omega)
    rw [if_neg (by omega)] at hsay
    refine ((g.unpack hx.byt hx.len).and ((g.read hx.byt hx.len).and awake)).step fun k ⟨q1, q2, q3⟩ => ?_
    rw [casematelaw06_EccBlank.l1, if_neg (by omega), q1, Option.bind_some, q2, Option.bind_some, q3, Option.bind_some, if_pos rfl, unp, rea, hsay, if_neg (show ¬ (60 : Int) = 0 by decide), if_neg (show ¬ (60 : Int) = 0 by decide)]
    dsimp only
    rw [if_pos rfl]; rfl
  | e + 1, m, x, hm, hx => by
    have hsay := hx.says g hsec (by omega)
    rw [if_pos (by omega)] at hsay
    have hw := g.lew hsec
    have hsw := g.sw
    have hw5 := g.wh_le
    have ht8 := g.t8
    have hs8 := g.s8
    have e0 : wrap64 ((m : Int) + 1) = ((m + 1 : Nat) : Int) := by rw [w64 (by omega) (by omega)]; rfl
    have e1 : wrap64 (8 * (sec : Int)) = ((8 * sec : Nat) : Int) := by rw [w64 (by omega) (by omega)]; omega
    have e2 : wrap64 (((8 * sec : Nat) : Int) * (wh n t : Int)) = ((8 * (sec * wh n t) : Nat) : Int) := by
      rw [mulw (by rw [Nat.mul_assoc]; clear e0 e1; omega), Nat.mul_assoc]
    have e3 : wrap64 (((8 * (sec * wh n t) : Nat) : Int) + (fr : Int)) = ((8 * (sec * wh n t) + fr : Nat) : Int) := L.cst_add (by clear e0 e1 e2; omega)
    have e4 : wrap64 (((8 * (sec * wh n t) + fr : Nat) : Int) + (m : Int)) = ((8 * (sec * wh n t) + fr + m : Nat) : Int) := L.cst_add (by clear e0 e1 e2 e3; omega)
    obtain ⟨p, hp⟩ : ∃ p, 8 * (sec * wh n t) + fr + m = p := ⟨_, rfl⟩
    have e5 : wrap64 (Int.tdiv ((p : Nat) : Int) 8) = ((p / 8 : Nat) : Int) := by
      have : Int.tdiv ((p : Nat) : Int) 8 = ((p / 8 : Nat) : Int) := by rw [Int.tdiv_eq_ediv_of_nonneg (by omega)]; omega
      rw [this, w64 (by clear e0 e1 e2 e3 e4; omega) (by clear e0 e1 e2 e3 e4; omega)]
    have e6 : Int.tmod ((p : Nat) : Int) 8 = ((p % 8 : Nat) : Int) := by rw [Int.tmod_eq_emod_of_nonneg (by omega)]; omega
    have hp8 : p / 8 < s * wh n t := by clear e0 e1 e2 e3 e4 e5 e6; omega
    have hbit : (x.getD (p / 8) 0).toNat.testBit (p % 8) = true := by
      have := hx.bit p (by clear e0 e1 e2 e3 e4 e5 e6; omega)
      rw [decide_eq_false (show ¬ p < 8 * (sec * wh n t) + fr + m by clear e0 e1 e2 e3 e4 e5 e6; omega), Bool.and_false] at this
      exact this
    have hsub := sub_u8 (hx.byt.get (p / 8)) (show p % 8 < 8 from Nat.mod_lt _ (by decide)) hbit
    have hlen := hx.len
    have hx' : BlkI (s * wh n t + 1) (s * wh n t) (8 * (sec * wh n t) + fr) (m + 1) (x.set (p / 8) ((x.getD (p / 8) 0 - ((2 ^ (p % 8) : Nat) : Int)) % 256)) := by
      clear e0 e1 e2 e3 e4 e5 e6 hsay
      refine ⟨by rw [List.length_set]; exact hlen, hx.byt.set _ hsub.1, ?_, fun j hj => ?_⟩
      · rw [getD_set (by rw [hlen]; exact Nat.lt_succ_of_lt hp8), if_neg (by omega)]; exact hx.last
      · rw [bitAt_set (by rw [hlen]; exact Nat.lt_succ_of_lt hp8)]
        have hb := hx.bit j hj
        by_cases h8 : j / 8 = p / 8
        · rw [if_pos h8, hsub.2 _ (Nat.mod_lt _ (by decide))]
          rw [show (x.getD (p / 8) 0).toNat.testBit (j % 8) = bitAt x j from by unfold bitAt; rw [h8], hb]
          by_cases hj8 : j % 8 = p % 8
          · have : j = p := by omega
            subst this
            rw [show (j % 8 == j % 8) = true from by simp, Bool.not_true, Bool.and_false, decide_eq_true (show 8 * (sec * wh n t) + fr ≤ j by omega), decide_eq_true (show j < 8 * (sec * wh n t) + fr + (m + 1) by omega)]; rfl
          · rw [show (j % 8 == p % 8) = false from by simpa using hj8, Bool.not_false, Bool.and_true, show decide (j < 8 * (sec * wh n t) + fr + m) = decide (j < 8 * (sec * wh n t) + fr + (m + 1)) from decide_eq_decide.2 (by
              have : j ≠ p := fun e => hj8 (by rw [e])
              omega)]
        · rw [if_neg h8, hb, show decide (j < 8 * (sec * wh n t) + fr + m) = decide (j < 8 * (sec * wh n t) + fr + (m + 1)) from decide_eq_decide.2 (by
            have : j ≠ p := fun e => h8 (by rw [e])
            omega)]
    refine ((g.unpack hx.byt hx.len).and ((trn (show p % 8 < 8 from Nat.mod_lt _ (by decide))).and (blk_l1 g hsec hfr e (m + 1) _ (by clear e0 e1 e2 e3 e4 e5 e6; omega) hx'))).step fun k ⟨q1, q2, q3⟩ => ?_
    rw [casematelaw06_EccBlank.l1, if_pos (by clear e0 e1 e2 e3 e4 e5 e6; omega), q1, Option.bind_some, unp, hsay, if_neg (show ¬ (61 : Int) = 0 by decide)]
    dsimp only
    rw [if_pos rfl, g.r_whole, Option.bind_some, e1, e2, e3, e4, hp, e5, e6, if_pos (by clear e0 e1 e2 e3 e4 e5 e6; omega), if_pos (by rw [hlen]; clear e0 e1 e2 e3 e4 e5 e6; omega), q2, Option.bind_some, Int.toNat_natCast, rd_nat, e0]
    exact q3
theorem blk_l0 {a b s n t : Nat} (x1 x2 : Int) {L : Nat} (hL : L ≤ 100000) (hE : ∀ x : List Int, x.length = L → Byt x → (∀ j, j < L → x.getD j 0 = 255) → Evt fun k => casematelaw06_EccBlank.l1 k x1 x2 x 0 a b s n t = some true) :
    ∀ (e i : Nat) (x : List Int), i + e = L → x.length = L → Byt x → (∀ j, j < i → x.getD j 0 = 255) → Evt fun k => casematelaw06_EccBlank.l0 k x1 x2 x (i : Int) a b s n t = some true
  | 0, i, x, hi, hl, hx, hg => (hE x hl hx fun j hj => hg j (by omega)).step fun k q => by
    rw [casematelaw06_EccBlank.l0, if_neg (by omega)]; exact q
  | e + 1, i, x, hi, hl, hx, hg => by
    have e0 : wrap64 ((i : Int) + 1) = ((i + 1 : Nat) : Int) := by rw [w64 (by omega) (by omega)]; rfl
    refine (blk_l0 x1 x2 hL hE e (i + 1) (x.set i 255) (by clear e0; omega) (by rw [List.length_set]; exact hl) (hx.set i (by omega)) (fun j h => by
      rw [getD_set (by clear e0; omega)]
      by_cases h2 : j = i
      · rw [if_pos h2]
      · rw [if_neg h2]; exact hg j (by clear e0; omega))).step fun k q => ?_
    rw [casematelaw06_EccBlank.l0, if_pos (by clear e0; omega), if_pos (by clear e0; omega), Int.toNat_natCast, e0]
    exact q
theorem EccBlank (a b s n t : Int) (x1 x2 : Int) : ∃ k, casematelaw06_EccBlank.f k a b s n t x1 x2 = some true := by
  refine Evt.get ?_
  have hT : Evt fun k => casematelaw06_EccBlank.j0 k x1 x2 true a b s n t = some true := Evt.of 0 fun k hk => by
    obtain ⟨k, rfl⟩ := fuel hk
    rw [casematelaw06_EccBlank.j0, if_pos rfl]
  by_cases hM : MayI a b s n t
  · obtain ⟨a, b, s, n, t, rfl, rfl, rfl, rfl, rfl, g⟩ := hM.geo
    by_cases hs : s * n ≤ 64
    · have hf : ∀ k, casematelaw06_EccBlank.f k a b s n t x1 x2 = if x1 < 0 then casematelaw06_EccBlank.j0 k x1 x2 true a b s n t else (if x1 ≥ (s : Int) then casematelaw06_EccBlank.j0 k x1 x2 true a b s n t else (if x2 < 0 then casematelaw06_EccBlank.j0 k x1 x2 true a b s n t else casematelaw06_EccBlank.j0 k x1 x2 (decide (x2 ≥ ((8 * wh n t - t : Nat) : Int))) a b s n t)) := fun k => by
        have hw5 := g.wh_le
        have ht8 := g.t8
        have e1 : wrap64 (8 * (wh n t : Int)) = ((8 * wh n t : Nat) : Int) := by rw [w64 (by omega) (by omega)]; omega
        have e2 : wrap64 (((8 * wh n t : Nat) : Int) - (t : Int)) = ((8 * wh n t - t : Nat) : Int) := L.cst_sub (by clear e1; omega) (by clear e1; omega)
        unfold casematelaw06_EccBlank.f
        rw [small_geo g, Option.bind_some, if_pos (decide_eq_true hs), r6_May, Option.bind_some, if_pos (decide_eq_true g.may), g.r_whole, Option.bind_some, e1, e2]
      by_cases h0 : x1 < 0
      · exact hT.mono fun k h => by rw [hf, if_pos h0]; exact h
      · by_cases h1 : x1 ≥ (s : Int)
        · exact hT.mono fun k h => by rw [hf, if_neg h0, if_pos h1]; exact h
        · by_cases h2 : x2 < 0
          · exact hT.mono fun k h => by rw [hf, if_neg h0, if_neg h1, if_pos h2]; exact h
          · by_cases h3 : x2 ≥ ((8 * wh n t - t : Nat) : Int)
            · exact hT.mono fun k h => by rw [hf, if_neg h0, if_neg h1, if_neg h2, decide_eq_true h3]; exact h
            · obtain ⟨sec, rfl⟩ : ∃ sec : Nat, x1 = (sec : Int) := ⟨x1.toNat, by omega⟩
              obtain ⟨fr, rfl⟩ : ∃ fr : Nat, x2 = (fr : Int) := ⟨x2.toNat, by omega⟩
              have hsec : sec < s := by omega
              have hsw := g.sw
              have hl0 := blk_l0 (a := a) (b := b) (s := s) (n := n) (t := t) (sec : Int) (fr : Int) (L := s * wh n t + 1) (by omega) (fun x hxl hx hg => by
                exact blk_l1 g hsec (by omega) (t + 1) 0 x (by omega) ⟨hxl, hx, hg _ (by omega), fun j hj => by
                  rw [full_bit (hg (j / 8) (by omega)), Nat.add_zero]
                  by_cases hP : 8 * (sec * wh n t) + fr ≤ j
                  · rw [decide_eq_false (show ¬ j < 8 * (sec * wh n t) + fr by omega), Bool.and_false]; rfl
                  · rw [decide_eq_false hP, Bool.false_and]; rfl⟩) (s * wh n t + 1) 0 (List.replicate (s * wh n t + 1) 0) (by omega) (by simp) (Byt.zeros _) (fun j hj => absurd hj (Nat.not_lt_zero _))
              have hj0 : Evt fun k => casematelaw06_EccBlank.j0 k (sec : Int) (fr : Int) false a b s n t = some true := hl0.step fun k q => by
                rw [casematelaw06_EccBlank.j0, if_neg (by decide), g.r_raw, Option.bind_some, if_pos (by omega), Int.toNat_natCast, if_pos (by omega)]
                exact q
              exact hj0.mono fun k h => by rw [hf, if_neg h0, if_neg h1, if_neg h2, decide_eq_false h3]; exact h
    · refine hT.mono fun k h => ?_
      unfold casematelaw06_EccBlank.f
      rw [small_geo g, Option.bind_some, if_neg (by rw [decide_eq_false hs]; decide)]
      exact h
  · refine hT.mono fun k h => ?_
    unfold casematelaw06_EccBlank.f
    rw [small_no hM, Option.bind_some, if_pos rfl, r6_May, Option.bind_some, if_neg (by rw [decide_eq_false hM]; decide)]
    exact h
end Go.Proofs.Ytfpdloccmneabaa.Pure

/- The pure statement of the law BchAgain: what the printed function of the law comes to is true at every input. No condition. -/
import Derived.Test.YtbaiildpabdlpaaBch
import Derived.Test.YtbaiildpabdlpaaPx19
import Derived.Test.YtbaiildpabdlpaaPx1
import Derived.Test.YtbaiildpabdlpaaPx8
set_option linter.unusedVariables false
set_option linter.unusedSimpArgs false
namespace Go.Proofs.Ytbaiildpabdlpaa.Pure
open Go Go.RowKit Go.Proofs.Ytbaiildpabdlpaa.P Go.Proofs.YtbaiildpabdlpaaW.PrintWords Go.Proofs.YtbaiildpabdlpaaW.PrintLast Go.Proofs.YtbaiildpabdlpaaW.PrintMore Go.Proofs.CsM Go.Proofs.Ytbaiildpabdlpaa.L
/-- Where all sums are 0 the rule is 1. -/
theorem loc_zero {S : Ser GF} {N : Nat} {c : List Int} (h : LocAns S N c) (hS : ∀ k, S.c k = 0) : c = [1] := by
  obtain ⟨L, hh, B, last, H⟩ := h.ex
  have hS0 : S = 0 := Ser.ext hS
  have hL : L = 0 := by
    refine Classical.byContradiction fun e => H.ln ?_
    rw [← H.bt (by omega), hS0, r_mul_zero, r_mul_zero]; rfl
  have h1 : toS c = 1 := Ser.ext fun i => by
    rw [one_c]
    by_cases hi : i = 0
    · subst hi; rw [if_pos rfl]; exact H.c0
    · rw [if_neg hi]; exact H.cb i (by omega)
  rw [← h.fin, ← show P.fin [1] = [1] from rfl]
  exact fin_eq h.el one_S.1 (h1.trans one_S.2.symm)
theorem rt_one (i : Nat) : rt [1] i = false := by
  unfold rt
  refine decide_eq_false fun e => ?_
  rw [one_S.2] at e
  have : ev (1 : Ser GF) [(1 : Int)].length (pw w (ex (-(i : Int)))) = 1 := ev_cst 1 1 (by omega) _
  rw [this] at e
  exact g_one_ne e
theorem turned_one (n : Nat) : turned [1] n = 0 := Ser.ext fun i => by
  show (decide (i < n) && rt [1] i) = false
  rw [rt_one, Bool.and_false]
theorem cnt_one (n : Nat) : cnt (rt [1]) n = 0 := cnt_none fun i _ => rt_one i
theorem again {t : Nat} {d m : List Int} (hW : Wok t d m) (hc : L.Code t (wd t d m) (wl t d)) (hu : ∀ j, 13 * t ≤ j → bitAt m j = false) : Evt fun k => bch_Decode.f k (t : Int) d m = some (d, m, 0, 0) := by
  obtain ⟨c, hA, hcn, hcase⟩ := c_Decode hW
  have hz : ∀ k, (toS (sml t (wd t d m) (wl t d))).c k = 0 := fun k => by
    by_cases hk : k < 2 * t
    · rw [sml_S t _ _ hk]; exact hc (k + 1) (by omega) (by omega)
    · exact toS_bd _ k (by rw [sml_length]; omega)
  have hc1 := loc_zero hA hz
  subst hc1
  rw [cnt_one, turned_one, R2.add_zero] at hcase
  rcases hcase with ⟨_, _, _, d2, m2, hD, hW2, hl2, hwd2, hup⟩ | ⟨hq, _⟩
  · obtain ⟨rfl, rfl⟩ := wd_inj hW hW2 hl2 hwd2 hu hup
    exact hD
  · exact absurd ⟨by simp, by simp, hc⟩ hq
theorem agn_l0 (d2 m2 : List Int) (s : List Int) (hs : s.length ≤ 100) (hz : ∀ i, i < s.length → s.getD i 0 = 0) (K : Nat) (hb : Byt d2) (hm : Byt m2) (hR : ∀ k, K ≤ k → casematelaw05_awake.f k = some true) :
    ∀ (e i k : Nat), i + e = s.length → e + K < k → casematelaw05_BchAgain.l0 k d2 m2 d2 m2 0 0 m2 0 s 0 (i : Int) = some true
  | 0, i, k, hi, hk => by
    obtain ⟨k, rfl⟩ := fuel hk
    rw [casematelaw05_BchAgain.l0, if_neg (by omega), hR k (by omega), Option.bind_some, if_pos rfl, if_pos rfl, if_pos rfl, if_pos rfl, if_pos rfl, if_pos rfl, if_pos rfl, str_beq hm hm, decide_eq_true rfl]
  | e + 1, i, k, hi, hk => by
    obtain ⟨k, rfl⟩ := fuel hk
    have e2 : wrap64 ((i : Int) + 1) = ((i + 1 : Nat) : Int) := by rw [w64 (by omega) (by omega)]; omega
    rw [casematelaw05_BchAgain.l0, if_pos (by clear e2; omega), if_pos (by clear e2; omega), rd_nat, if_pos (hz i (by clear e2; omega)), e2]
    exact agn_l0 d2 m2 s hs hz K hb hm hR e (i + 1) k (by clear e2; omega) (by clear e2; omega)
theorem BchAgain : casematelaw05_BchAgain.Pure := by
  intro t d m ht hd1 hd2 hd3 hm1 hm2 hm3
  have hb := byt_wf hd3
  have hbm := byt_wf hm3
  refine Evt.get ?_
  by_cases hs : d.length ≤ 40 ∧ m.length ≤ 40
  · have hsm : casematelaw05_small.f d m = some true := by rw [l_small, decide_eq_true hs]
    by_cases hbad : t < 1 ∨ t > 8 ∨ d.length < 1 ∨ d.length > 512 ∨ m.length ≠ mb t.toNat
    · refine awake.mono fun k h => ?_
      unfold casematelaw05_BchAgain.f
      rw [hsm, Option.bind_some, if_pos rfl, c_Decode_no hbad k, Option.bind_some]
      dsimp only
      rw [if_neg (by decide), h, Option.bind_some, if_pos rfl]
      decide +kernel
    · obtain ⟨u, rfl, u1, u8⟩ := nat_of (t := t) (by omega)
      rw [Int.toNat_natCast] at hbad
      have hW : Wok u d m := ⟨u1, u8, hb, hbm, by omega, by omega, by omega⟩
      obtain ⟨c, hA, hcn, hcase⟩ := c_Decode hW
      rcases hcase with ⟨q1, q2, q3, d2, m2, hD, hW2, hl2, hwd2, hup⟩ | ⟨hq, hD⟩
      · have hwl2 : wl u d2 = wl u d := by unfold wl; rw [hl2]
        have hcode : L.Code u (wd u d2 m2) (wl u d2) := by rw [hwd2, hwl2]; exact q3
        obtain ⟨x, x1, x2⟩ := c_Encode u1 u8 hW2.hd hW2.d1 hW2.d512
        obtain rfl : m2 = x := x2.unique u8 hW2.hm hW2.ml hup hcode
        obtain ⟨K, hK⟩ := awake
        have hl0 : Evt fun k => casematelaw05_BchAgain.l0 k d2 m2 d2 m2 0 0 m2 0 (sml u (wd u d2 m2) (wl u d2)) 0 0 = some true := Evt.of (2 * u + K) fun k hk =>
          agn_l0 d2 m2 _ (by rw [sml_length]; omega) ((sml_zero u _ _).2 hcode) K hW2.hd hW2.hm (fun k hk => hK k hk) (2 * u) 0 k (by rw [sml_length]; omega) hk
        refine ((hD.and (again hW2 hcode hup)).and (x1.and ((c_Sums hW2).and hl0))).mono fun k ⟨⟨g1, g2⟩, g3, g4, g5⟩ => ?_
        unfold casematelaw05_BchAgain.f
        rw [hsm, Option.bind_some, if_pos rfl, g1, Option.bind_some]
        dsimp only
        rw [if_pos rfl, g2, Option.bind_some, g3, Option.bind_some, g4, Option.bind_some]
        exact g5
      · refine (hD.and awake).mono fun k ⟨g1, g2⟩ => ?_
        unfold casematelaw05_BchAgain.f
        rw [hsm, Option.bind_some, if_pos rfl, g1, Option.bind_some]
        dsimp only
        rw [if_neg (by decide), g2, Option.bind_some, if_pos rfl]
        decide +kernel
  · refine Evt.all fun k => ?_
    unfold casematelaw05_BchAgain.f
    rw [l_small, Option.bind_some, if_neg (by simpa using hs)]
end Go.Proofs.Ytbaiildpabdlpaa.Pure

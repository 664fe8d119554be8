/- At most t places that turn are put right. No condition. -/
import Derived.Test.YtfpdloccmneabaaL5
import Derived.Test.YtfpdloccmneabaaPx0
import Derived.Test.YtfpdloccmneabaaPx6
set_option linter.unusedVariables false
set_option linter.unusedSimpArgs false
namespace Go.Proofs.Ytfpdloccmneabaa.L
open Go Go.RowKit Go.Proofs.Ytfpdloccmneabaa.P Go.Proofs.YtfpdloccmneabaaW.PrintWords Go.Proofs.YtfpdloccmneabaaW.PrintLast Go.Proofs.YtfpdloccmneabaaW.PrintMore Go.Proofs.CsM
theorem w13 {t : Nat} (h : t ≤ 8) : wrap64 (13 * (t : Int)) = ((13 * t : Nat) : Int) := by rw [w64 (by omega) (by omega)]; omega
/-- Two words of the same coefficients are the same. -/
theorem wd_inj {t : Nat} {d m d' m' : List Int} (h : Wok t d m) (h' : Wok t d' m') (hl : d'.length = d.length) (e : wd t d' m' = wd t d m) (hu : ∀ j, 13 * t ≤ j → bitAt m j = false) (hu' : ∀ j, 13 * t ≤ j → bitAt m' j = false) : d' = d ∧ m' = m := by
  have hc : ∀ i, (if i < 13 * t then bitAt m' i else bitAt d' (i - 13 * t)) = if i < 13 * t then bitAt m i else bitAt d (i - 13 * t) := fun i => congrArg (fun f => f.c i) e
  refine ⟨byt_ext h'.hd h.hd hl fun i _ => ?_, byt_ext h'.hm h.hm (h'.ml.trans h.ml.symm) fun i _ => ?_⟩
  · have := hc (13 * t + i)
    rw [if_neg (by omega), if_neg (by omega), show 13 * t + i - 13 * t = i from by omega] at this
    exact this
  · by_cases hi : i < 13 * t
    · have := hc i
      rw [if_pos hi, if_pos hi] at this
      exact this
    · rw [hu i (by omega), hu' i (by omega)]
/-- The shortest rule is no longer than any. -/
theorem BMs_least {S : Ser GF} {n L h : Nat} {C B : Ser GF} {last : GF} (H : BMs S n L h C B last) {D : Ser GF} {v : Nat} (hD : Bd D (v + 1)) (hz : ∀ k, v ≤ k → k < n → (D * S).c k = 0) (d0 : D.c 0 = 1) : L ≤ v := by
  refine Nat.le_of_not_lt fun hlt => H.ln ?_
  have hL := H.hL
  have hE0 : (pw XX h * B).c 0 = 0 := by rw [pwXX_c, if_neg (by have := H.h1; omega)]
  have hEb : Bd (pw XX h * B) (n + 2 - L) := (pwXX_bd H.bb).mono (by have := H.hh; omega)
  have e1 : (D * (pw XX h * (B * S))).c n = (pw XX h * (B * S)).c n := by
    rw [mul_c, sm_one 0 (by omega) (fun i hi hne => ?_), d0, r_one_mul, Nat.sub_zero]
    by_cases hv : v + 1 ≤ i
    · rw [hD i hv, r_zero_mul]
    · rw [H.bz (n - i) (by omega) (by omega), r_mul_zero]
  have e2 : ((pw XX h * B) * (D * S)).c n = 0 := by
    rw [mul_c]
    refine sm_all0 fun i hi => ?_
    by_cases h0 : i = 0
    · subst h0; rw [hE0, r_zero_mul]
    · by_cases hb : n + 2 - L ≤ i
      · rw [hEb i hb, r_zero_mul]
      · rw [hz (n - i) (by omega) (by omega), r_mul_zero]
  rw [← H.bt (by omega), ← e1, show D * (pw XX h * (B * S)) = (pw XX h * B) * (D * S) from by ac_rfl, e2]
theorem mul_congr_c {C S T : Ser GF} {N : Nat} (h : ∀ i, i < N → S.c i = T.c i) {k : Nat} (hk : k < N) : (C * S).c k = (C * T).c k := by
  rw [mul_c, mul_c]
  exact sm_congr fun i hi => by rw [h (k - i) (by omega)]
theorem ginv_inj {a b : GF} (ha : a ≠ 0) (hb : b ≠ 0) (h : ginv a = ginv b) : a = b := by
  have h1 := mul_ginv ha
  have h2 := mul_ginv hb
  rw [← R2.mul_one a, ← h2, ← h, show a * (b * ginv a) = b * (a * ginv a) from by ac_rfl, h1, R2.mul_one]
/-- The rule of few places: its roots are their inverses, and it is as long as they are many. -/
theorem few_places {S : Ser GF} {N : Nat} {c : List Int} (hA : LocAns S N c) (xs : List GF) (hn : xs.Nodup) (h0 : ∀ x ∈ xs, x ≠ 0) (hS : ∀ i, i < N → S.c i = (sums xs).c i) (hN : 2 * xs.length ≤ N) : c.length = xs.length + 1 ∧ ∀ y, y ≠ 0 → (ev (toS c) c.length (ginv y) = 0 ↔ y ∈ xs) := by
  obtain ⟨L, hh, B, last, H⟩ := hA.ex
  have hLv : L ≤ xs.length := BMs_least H (D := loc xs) (loc_bd xs) (fun k h1 h2 => by rw [mul_congr_c hS h2]; exact loc_rule xs k h1) (loc_0 xs)
  have hroot := rule_roots (C := toS c) (L := L) (N := N) xs hn h0 H.cb (fun k h1 h2 => by rw [← mul_congr_c hS h2]; exact H.cz k h1 h2) (by omega)
  have hcl : c.length ≤ L + 1 := by have := fin_top_le hA.el H.cb; rwa [hA.fin] at this
  have hC0 : toS c ≠ 0 := fun e => g_one_ne (by rw [← H.c0, e]; rfl)
  have hndi : (xs.map ginv).Nodup := map_nodup hn fun a ha b hb e => ginv_inj (h0 a ha) (h0 b hb) e
  have hge : xs.length + 1 ≤ c.length := Nat.lt_of_not_le fun hle => hC0 (roots_zero xs.length (toS c) (xs.map ginv) ((toS_bd c).mono hle) hndi (by simp) fun y hy => by
    obtain ⟨x, hx, rfl⟩ := List.mem_map.1 hy
    have := hroot x hx
    rw [ev_bd (toS_bd c) hcl] at this
    rw [ev_bd (toS_bd c) hle]
    exact this)
  have hlen : c.length = xs.length + 1 := by omega
  have hL : L = xs.length := by omega
  refine ⟨hlen, fun y hy => ⟨fun hr => ?_, fun hx => by rw [show c.length = L + 1 from by omega]; exact hroot y hx⟩⟩
  refine Classical.byContradiction fun hno => hC0 (roots_zero c.length (toS c) (ginv y :: xs.map ginv) (toS_bd c) ?_ (by simp; omega) fun z hz => ?_)
  · refine List.nodup_cons.2 ⟨fun hm => hno ?_, hndi⟩
    obtain ⟨x, hx, e⟩ := List.mem_map.1 hm
    rw [← ginv_inj (h0 x hx) hy e]; exact hx
  · rcases List.mem_cons.1 hz with rfl | hz
    · exact hr
    · obtain ⟨x, hx, rfl⟩ := List.mem_map.1 hz
      rw [show c.length = L + 1 from by omega]
      exact hroot x hx
theorem ex_neg {i : Nat} (h : i < 8191) : pw w (ex (-(i : Int))) = ginv (pw w i) := by
  have h1 := pw_ex_add w_ne (i : Int) (-(i : Int))
  rw [show (i : Int) + -(i : Int) = 0 from by omega, ex_small h, show ex 0 = 0 from rfl, pw_zero] at h1
  have h2 := mul_ginv (pw_ne w_ne i)
  rw [← R2.mul_one (pw w (ex (-(i : Int)))), ← h2, ← R2.mul_assoc, R2.mul_comm (pw w (ex _)), h1, r_one_mul]
/-- A code word of which few bits are turned is found again. -/
theorem corrects {t : Nat} {d m b q : List Int} (hW : Wok t d m) (hc : L.Code t (wd t d m) (wl t d)) (hu : ∀ j, 13 * t ≤ j → bitAt m j = false) (hW2 : Wok t b q) (hl : b.length = d.length) (F : Ser Bool) (hF : Bd F (wl t d)) (he : wd t b q = wd t d m + F) (hcnt : cnt F.c (wl t d) ≤ t) : Evt fun k => bch_Decode.f k (t : Int) b q = some (d, m, ((cnt F.c (wl t d) : Nat) : Int), 0) := by
  have hwl : wl t b = wl t d := by unfold wl; rw [hl]
  have hwx := hW.wl_le
  obtain ⟨c, hA, hcn, hcase⟩ := c_Decode hW2
  rw [hwl, he] at hA hcase
  have hpl : (places F (wl t d)).length = cnt F.c (wl t d) := places_length F (wl t d)
  have hS : ∀ i, i < 2 * t → (toS (sml t (wd t d m + F) (wl t d))).c i = (sums (places F (wl t d))).c i := fun i hi => by
    rw [sml_S t _ _ hi, vb_add, hc (i + 1) (by omega) (by omega), r_zero_add, vb_ps]; rfl
  obtain ⟨g1, g2⟩ := few_places hA (places F (wl t d)) (places_nodup F (by omega)) (places_ne F (wl t d)) hS (by rw [hpl]; omega)
  have hrt : ∀ i, i < wl t d → rt c i = F.c i := fun i hi => by
    unfold rt
    rw [ex_neg (by omega)]
    have h1 := g2 (pw w i) (pw_ne w_ne i)
    have h2 : pw w i ∈ places F (wl t d) ↔ F.c i = true := by
      constructor
      · intro h
        obtain ⟨j, hj, e⟩ := List.mem_map.1 h
        obtain ⟨hj1, hj2⟩ := List.mem_filter.1 hj
        have hj3 := List.mem_range.1 hj1
        have := pw_w_inj.1 e
        rw [Nat.mod_eq_of_lt (by omega), Nat.mod_eq_of_lt (by omega)] at this
        rw [← this]; exact hj2
      · intro h
        exact List.mem_map.2 ⟨i, List.mem_filter.2 ⟨List.mem_range.2 hi, h⟩, rfl⟩
    rw [Bool.eq_iff_iff, decide_eq_true_iff, h1, h2]
  have hcc : cnt (rt c) (wl t d) = cnt F.c (wl t d) := cnt_congr hrt
  have htn : turned c (wl t d) = F := Ser.ext fun i => by
    show (decide (i < wl t d) && rt c i) = F.c i
    by_cases hi : i < wl t d
    · rw [decide_eq_true hi, Bool.true_and, hrt i hi]
    · rw [decide_eq_false hi, Bool.false_and]; exact (hF i (by omega)).symm
  rw [htn, hcc, show wd t d m + F + F = wd t d m from r_add_cancel _ _] at hcase
  rcases hcase with ⟨_, _, _, d2, m2, hD, hW3, hl2, hwd2, hup⟩ | ⟨hq, _⟩
  · obtain ⟨rfl, rfl⟩ := wd_inj hW hW3 (hl2.trans hl) hwd2 hu hup
    exact hD
  · refine absurd ⟨by rw [g1, hpl]; omega, by rw [g1, hpl]; omega, hc⟩ hq
end Go.Proofs.Ytfpdloccmneabaa.L

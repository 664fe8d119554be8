/- The pure statement of the law BchCorrects: what the printed function of the law comes to is true at every input. No condition. -/
import Derived.Test.YtbaiildpabdlpaaBch
import Derived.Test.YtbaiildpabdlpaaPx21
import Derived.Test.YtbaiildpabdlpaaPx1
import Derived.Test.YtbaiildpabdlpaaPx8
import Derived.Test.YtbaiildpabdlpaaPx20
set_option linter.unusedVariables false
set_option linter.unusedSimpArgs false
namespace Go.Proofs.Ytbaiildpabdlpaa.Pure
open Go Go.RowKit Go.Proofs.Ytbaiildpabdlpaa.P Go.Proofs.YtbaiildpabdlpaaW.PrintWords Go.Proofs.YtbaiildpabdlpaaW.PrintLast Go.Proofs.YtbaiildpabdlpaaW.PrintMore Go.Proofs.CsM Go.Proofs.Ytbaiildpabdlpaa.L
/-- The shortest rule is no longer than any. -/
theorem BMs_least {S : Ser GF} {n L h : Nat} {C B : Ser GF} {last : GF} (H : BMs S n L h C B last) {D : Ser GF} {v : Nat} (hD : Bd D (v + 1)) (hz : ∀ k, v ≤ k → k < n → (D * S).c k = 0) (d0 : D.c 0 = 1) : L ≤ v := by
  refine Nat.le_of_not_lt fun hlt => H.ln ?_
  have hL := H.hL
  have hE0 : (pw XX h * B).c 0 = 0 := by rw [pwXX_c, if_neg (by have := H.h1; omega)]
  have hEb : Bd (pw XX h * B) (n + 2 - L) := (pwXX_bd H.bb).mono (by have := H.hh; omega)
  have e1 : (D * (pw XX h * (B * S))).c n = (pw XX h * (B * S)).c n := by
    rw [mul_c, sm_one 0 (by omega) (fun i hi hne => ?_), d0, r_one_mul, Nat.sub_zero]
    by_cases hv : v + 1 ≤ i
    · rw [hD i hv, r_zero_mul]
    · rw [H.bz (n - i) (by omega) (by omega), r_mul_zero]
  have e2 : ((pw XX h * B) * (D * S)).c n = 0 := by
    rw [mul_c]
    refine sm_all0 fun i hi => ?_
    by_cases h0 : i = 0
    · subst h0; rw [hE0, r_zero_mul]
    · by_cases hb : n + 2 - L ≤ i
      · rw [hEb i hb, r_zero_mul]
      · rw [hz (n - i) (by omega) (by omega), r_mul_zero]
  rw [← H.bt (by omega), ← e1, show D * (pw XX h * (B * S)) = (pw XX h * B) * (D * S) from by ac_rfl, e2]
theorem mul_congr_c {C S T : Ser GF} {N : Nat} (h : ∀ i, i < N → S.c i = T.c i) {k : Nat} (hk : k < N) : (C * S).c k = (C * T).c k := by
  rw [mul_c, mul_c]
  exact sm_congr fun i hi => by rw [h (k - i) (by omega)]
theorem ginv_inj {a b : GF} (ha : a ≠ 0) (hb : b ≠ 0) (h : ginv a = ginv b) : a = b := by
  have h1 := mul_ginv ha
  have h2 := mul_ginv hb
  rw [← R2.mul_one a, ← h2, ← h, show a * (b * ginv a) = b * (a * ginv a) from by ac_rfl, h1, R2.mul_one]
/-- The rule of few places: its roots are their inverses, and it is as long as they are many. -/
theorem few_places {S : Ser GF} {N : Nat} {c : List Int} (hA : LocAns S N c) (xs : List GF) (hn : xs.Nodup) (h0 : ∀ x ∈ xs, x ≠ 0) (hS : ∀ i, i < N → S.c i = (sums xs).c i) (hN : 2 * xs.length ≤ N) : c.length = xs.length + 1 ∧ ∀ y, y ≠ 0 → (ev (toS c) c.length (ginv y) = 0 ↔ y ∈ xs) := by
  obtain ⟨L, hh, B, last, H⟩ := hA.ex
  have hLv : L ≤ xs.length := BMs_least H (D := loc xs) (loc_bd xs) (fun k h1 h2 => by rw [mul_congr_c hS h2]; exact loc_rule xs k h1) (loc_0 xs)
  have hroot := rule_roots (C := toS c) (L := L) (N := N) xs hn h0 H.cb (fun k h1 h2 => by rw [← mul_congr_c hS h2]; exact H.cz k h1 h2) (by omega)
  have hcl : c.length ≤ L + 1 := by have := fin_top_le hA.el H.cb; rwa [hA.fin] at this
  have hC0 : toS c ≠ 0 := fun e => g_one_ne (by rw [← H.c0, e]; rfl)
  have hndi : (xs.map ginv).Nodup := map_nodup hn fun a ha b hb e => ginv_inj (h0 a ha) (h0 b hb) e
  have hge : xs.length + 1 ≤ c.length := Nat.lt_of_not_le fun hle => hC0 (roots_zero xs.length (toS c) (xs.map ginv) ((toS_bd c).mono hle) hndi (by simp) fun y hy => by
    obtain ⟨x, hx, rfl⟩ := List.mem_map.1 hy
    have := hroot x hx
    rw [ev_bd (toS_bd c) hcl] at this
    rw [ev_bd (toS_bd c) hle]
    exact this)
  have hlen : c.length = xs.length + 1 := by omega
  have hL : L = xs.length := by omega
  refine ⟨hlen, fun y hy => ⟨fun hr => ?_, fun hx => by rw [show c.length = L + 1 from by omega]; exact hroot y hx⟩⟩
  refine Classical.byContradiction fun hno => hC0 (roots_zero c.length (toS c) (ginv y :: xs.map ginv) (toS_bd c) ?_ (by simp; omega) fun z hz => ?_)
  · refine List.nodup_cons.2 ⟨fun hm => hno ?_, hndi⟩
    obtain ⟨x, hx, e⟩ := List.mem_map.1 hm
    rw [← ginv_inj (h0 x hx) hy e]; exact hx
  · rcases List.mem_cons.1 hz with rfl | hz
    · exact hr
    · obtain ⟨x, hx, rfl⟩ := List.mem_map.1 hz
      rw [show c.length = L + 1 from by omega]
      exact hroot x hx
theorem ex_neg {i : Nat} (h : i < 8191) : pw w (ex (-(i : Int))) = ginv (pw w i) := by
  have h1 := pw_ex_add w_ne (i : Int) (-(i : Int))
  rw [show (i : Int) + -(i : Int) = 0 from by omega, ex_small h, show ex 0 = 0 from rfl, pw_zero] at h1
  have h2 := mul_ginv (pw_ne w_ne i)
  rw [← R2.mul_one (pw w (ex (-(i : Int)))), ← h2, ← R2.mul_assoc, R2.mul_comm (pw w (ex _)), h1, r_one_mul]
/-- A code word of which few bits are turned is found again. -/
theorem corrects {t : Nat} {d m b q : List Int} (hW : Wok t d m) (hc : L.Code t (wd t d m) (wl t d)) (hu : ∀ j, 13 * t ≤ j → bitAt m j = false) (hW2 : Wok t b q) (hl : b.length = d.length) (F : Ser Bool) (hF : Bd F (wl t d)) (he : wd t b q = wd t d m + F) (hcnt : cnt F.c (wl t d) ≤ t) : Evt fun k => bch_Decode.f k (t : Int) b q = some (d, m, ((cnt F.c (wl t d) : Nat) : Int), 0) := by
  have hwl : wl t b = wl t d := by unfold wl; rw [hl]
  have hwx := hW.wl_le
  obtain ⟨c, hA, hcn, hcase⟩ := c_Decode hW2
  rw [hwl, he] at hA hcase
  have hpl : (places F (wl t d)).length = cnt F.c (wl t d) := places_length F (wl t d)
  have hS : ∀ i, i < 2 * t → (toS (sml t (wd t d m + F) (wl t d))).c i = (sums (places F (wl t d))).c i := fun i hi => by
    rw [sml_S t _ _ hi, vb_add, hc (i + 1) (by omega) (by omega), r_zero_add, vb_ps]; rfl
  obtain ⟨g1, g2⟩ := few_places hA (places F (wl t d)) (places_nodup F (by omega)) (places_ne F (wl t d)) hS (by rw [hpl]; omega)
  have hrt : ∀ i, i < wl t d → rt c i = F.c i := fun i hi => by
    unfold rt
    rw [ex_neg (by omega)]
    have h1 := g2 (pw w i) (pw_ne w_ne i)
    have h2 : pw w i ∈ places F (wl t d) ↔ F.c i = true := by
      constructor
      · intro h
        obtain ⟨j, hj, e⟩ := List.mem_map.1 h
        obtain ⟨hj1, hj2⟩ := List.mem_filter.1 hj
        have hj3 := List.mem_range.1 hj1
        have := pw_w_inj.1 e
        rw [Nat.mod_eq_of_lt (by omega), Nat.mod_eq_of_lt (by omega)] at this
        rw [← this]; exact hj2
      · intro h
        exact List.mem_map.2 ⟨i, List.mem_filter.2 ⟨List.mem_range.2 hi, h⟩, rfl⟩
    rw [Bool.eq_iff_iff, decide_eq_true_iff, h1, h2]
  have hcc : cnt (rt c) (wl t d) = cnt F.c (wl t d) := cnt_congr hrt
  have htn : turned c (wl t d) = F := Ser.ext fun i => by
    show (decide (i < wl t d) && rt c i) = F.c i
    by_cases hi : i < wl t d
    · rw [decide_eq_true hi, Bool.true_and, hrt i hi]
    · rw [decide_eq_false hi, Bool.false_and]; exact (hF i (by omega)).symm
  rw [htn, hcc, show wd t d m + F + F = wd t d m from r_add_cancel _ _] at hcase
  rcases hcase with ⟨_, _, _, d2, m2, hD, hW3, hl2, hwd2, hup⟩ | ⟨hq, _⟩
  · obtain ⟨rfl, rfl⟩ := wd_inj hW hW3 (hl2.trans hl) hwd2 hu hup
    exact hD
  · refine absurd ⟨by rw [g1, hpl]; omega, by rw [g1, hpl]; omega, hc⟩ hq
/-- The places that are marked. -/
def mk (fl : List Bool) : Nat → Bool := fun i => fl.getD i false
theorem cnt_set {fl : List Bool} (p n : Nat) : cnt (mk (fl.set p true)) n ≤ cnt (mk fl) n + 1 := by
  have key : ∀ n, cnt (mk (fl.set p true)) n ≤ cnt (mk fl) n + (if p < n then 1 else 0) := fun n => by
    induction n with
    | zero => exact Nat.zero_le _
    | succ n ih =>
      rw [cnt_succ, cnt_succ]
      by_cases e : n = p
      · subst e
        rw [if_neg (by omega)] at ih
        rw [if_pos (show n < n + 1 by omega)]
        have h1 : (if mk (fl.set n true) n = true then 1 else 0) ≤ 1 := by split <;> omega
        omega
      · have h1 : mk (fl.set p true) n = mk fl n := by
          unfold mk
          rw [List.getD_eq_getElem?_getD, List.getElem?_set_ne (fun h => e h.symm), ← List.getD_eq_getElem?_getD]
        rw [h1]
        by_cases h2 : p < n
        · rw [if_pos h2] at ih; rw [if_pos (show p < n + 1 by omega)]; omega
        · rw [if_neg h2] at ih; rw [if_neg (show ¬ p < n + 1 by omega)]; omega
  have := key n
  split at this <;> omega
theorem cor_l0 {t : Nat} {d m ps : List Int} (hps : ps.length ≤ 8) {n : Nat} (hn : n ≤ 5000) (hR : ∀ fl : List Bool, fl.length = n → cnt (mk fl) n ≤ ps.length → Evt fun k => casematelaw05_BchCorrects.l1 k (t : Int) d m fl ([] : List Int) ([] : List Int) 0 = some true) :
    ∀ (e i : Nat) (fl : List Bool), i + e = ps.length → fl.length = n → cnt (mk fl) n ≤ i → Evt fun k => casematelaw05_BchCorrects.l0 k (t : Int) d ps m fl (i : Int) = some true
  | 0, i, fl, hi, hl, hc => (hR fl hl (by omega)).step fun k h => by
    rw [casematelaw05_BchCorrects.l0, if_neg (by omega)]; exact h
  | e + 1, i, fl, hi, hl, hc => by
    have e2 : wrap64 ((i : Int) + 1) = ((i + 1 : Nat) : Int) := by rw [w64 (by omega) (by omega)]; omega
    by_cases h1 : ps.getD i 0 < 0
    · refine Evt.of 0 fun k hk => ?_
      obtain ⟨k, rfl⟩ := fuel hk
      rw [casematelaw05_BchCorrects.l0, if_pos (by clear e2; omega), if_pos (by clear e2; omega), rd_nat, if_pos h1]
    · by_cases h2 : ps.getD i 0 ≥ (fl.length : Int)
      · refine Evt.of 0 fun k hk => ?_
        obtain ⟨k, rfl⟩ := fuel hk
        rw [casematelaw05_BchCorrects.l0, if_pos (by clear e2; omega), if_pos (by clear e2; omega), rd_nat, if_neg h1, if_pos h2]
      · have hcs := cnt_set (fl := fl) (ps.getD i 0).toNat n
        refine (cor_l0 hps hn hR e (i + 1) (fl.set (ps.getD i 0).toNat true) (by clear e2; omega) (by rw [List.length_set]; exact hl) (by clear e2; omega)).step fun k h => ?_
        rw [casematelaw05_BchCorrects.l0, if_pos (by clear e2; omega), if_pos (by clear e2; omega), rd_nat, if_neg h1, if_neg h2, if_pos (by clear e2; omega), if_pos (by clear e2; omega), e2]
        exact h
theorem ints_app (a b : List Nat) : ints (a ++ b) = ints a ++ ints b := by simp [ints]
theorem cor_l1 {t : Nat} (h8 : t ≤ 8) {d m : List Int} {fl : List Bool} (hl : fl.length ≤ 5000) (K : Nat)
    (hR : ∀ k, K ≤ k → casematelaw05_BchCorrects.l1 k (t : Int) d m fl (ints (diffs (mk fl) (min (13 * t) fl.length))) (ints (diffs (fun j => mk fl (13 * t + j)) (fl.length - 13 * t))) (fl.length : Int) = some true) :
    ∀ (e i k : Nat), i + e = fl.length → 2 * e + K < k → casematelaw05_BchCorrects.l1 k (t : Int) d m fl (ints (diffs (mk fl) (min (13 * t) i))) (ints (diffs (fun j => mk fl (13 * t + j)) (i - 13 * t))) (i : Int) = some true
  | 0, i, k, hi, hk => by
    have : i = fl.length := by omega
    subst this
    exact hR k (by omega)
  | e + 1, i, k, hi, hk => by
    obtain ⟨k, rfl⟩ := fuel hk
    obtain ⟨k, rfl⟩ := fuel (show 0 < k by omega)
    have ih := cor_l1 h8 hl K hR e (i + 1) k (by omega) (by omega)
    have e2 : wrap64 ((i : Int) + 1) = ((i + 1 : Nat) : Int) := by rw [w64 (by omega) (by omega)]; omega
    have hrd : rdOf false fl (i : Int) = mk fl i := by unfold rdOf mk; rw [Int.toNat_natCast]
    have hd1 : (ints (diffs (mk fl) (min (13 * t) i))).length ≤ 5000 := by rw [ints_length]; have := cnt_le (mk fl) (min (13 * t) i); unfold cnt at this; clear e2; omega
    have hd2 : (ints (diffs (fun j => mk fl (13 * t + j)) (i - 13 * t))).length ≤ 5000 := by rw [ints_length]; have := cnt_le (fun j => mk fl (13 * t + j)) (i - 13 * t); unfold cnt at this; clear e2; omega
    rw [casematelaw05_BchCorrects.l1, if_pos (by clear e2; omega), if_pos (by clear e2; omega), hrd]
    by_cases hf : mk fl i = true
    · rw [if_pos hf, w13 h8]
      by_cases hi2 : i < 13 * t
      · rw [decide_eq_true (by clear e2; omega), casematelaw05_BchCorrects.j4, if_pos rfl, if_pos (by clear e2; omega), e2]
        rw [show min (13 * t) (i + 1) = i + 1 from by clear e2; omega, diffs_succ, if_pos hf, ints_app, show i + 1 - 13 * t = 0 from by clear e2; omega] at ih
        rw [show min (13 * t) i = i from by clear e2; omega, show i - 13 * t = 0 from by clear e2; omega]
        exact ih
      · have e3 : wrap64 ((i : Int) - ((13 * t : Nat) : Int)) = ((i - 13 * t : Nat) : Int) := cst_sub (by clear e2; omega) (by clear e2; omega)
        rw [decide_eq_false (by clear e2; omega), casematelaw05_BchCorrects.j4, if_neg (by decide), if_pos (by clear e2; omega), if_pos (by clear e2; omega), hrd, if_pos hf, if_pos (by clear e2; omega), w13 h8, e3, e2]
        rw [show min (13 * t) (i + 1) = 13 * t from by clear e2 e3; omega, show i + 1 - 13 * t = (i - 13 * t) + 1 from by clear e2 e3; omega, diffs_succ, show 13 * t + (i - 13 * t) = i from by clear e2 e3; omega, if_pos hf, ints_app] at ih
        rw [show min (13 * t) i = 13 * t from by clear e2 e3; omega]
        exact ih
    · have hff := Bool.eq_false_iff.2 hf
      rw [if_neg hf, casematelaw05_BchCorrects.j4, if_neg (by decide), if_pos (by clear e2; omega), if_pos (by clear e2; omega), hrd, if_neg hf, e2]
      have h1 : diffs (mk fl) (min (13 * t) (i + 1)) = diffs (mk fl) (min (13 * t) i) := by
        by_cases hi2 : i < 13 * t
        · rw [show min (13 * t) (i + 1) = i + 1 from by clear e2; omega, show min (13 * t) i = i from by clear e2; omega, diffs_succ, if_neg hf, List.append_nil]
        · rw [show min (13 * t) (i + 1) = min (13 * t) i from by clear e2; omega]
      have h2 : diffs (fun j => mk fl (13 * t + j)) (i + 1 - 13 * t) = diffs (fun j => mk fl (13 * t + j)) (i - 13 * t) := by
        by_cases hi2 : i < 13 * t
        · rw [show i + 1 - 13 * t = i - 13 * t from by clear e2; omega]
        · rw [show i + 1 - 13 * t = (i - 13 * t) + 1 from by clear e2; omega, diffs_succ, show 13 * t + (i - 13 * t) = i from by clear e2; omega, if_neg hf, List.append_nil]
      rw [h1, h2] at ih
      exact ih
theorem k_pos {K k : Nat} (h : K + 5002 ≤ k) : 0 < k := by omega
theorem k_help {K k : Nat} (h : K + 5002 ≤ k + 1) : 5000 < k ∧ K ≤ k := by omega
theorem BchCorrects : casematelaw05_BchCorrects.Pure := by
  intro t d ps ht hd1 hd2 hd3 hp1 hp2 hp3
  have hb := byt_wf hd3
  have hT : Evt fun k => casematelaw05_BchCorrects.j0 k t d ps true = some true := Evt.of 0 fun k hk => by
    obtain ⟨k, rfl⟩ := fuel hk
    rw [casematelaw05_BchCorrects.j0, if_pos rfl]
  refine Evt.get ?_
  by_cases hs : d.length ≤ 40
  · have hsm : casematelaw05_small.f d [] = some true := by rw [l_small, decide_eq_true ⟨hs, by simp⟩]
    by_cases hok : d.length ≠ 0 ∧ ¬ (t < 1 ∨ t > 8) ∧ (ps.length : Int) ≤ t
    · obtain ⟨h0, ht8, hps⟩ := hok
      obtain ⟨u, rfl, u1, u8⟩ := nat_of ht8
      obtain ⟨x, x1, x2⟩ := c_Encode u1 u8 hb (by omega) (by omega)
      have wx := x2.wok u1 u8 hb (by omega) (by omega)
      have hwx := wx.wl_le
      have hmbl := mb_lt u
      have hmbg := mb_ge u
      have ewl : wrap64 (wrap64 (13 * (u : Int)) + wrap64 (8 * (d.length : Int))) = ((wl u d : Nat) : Int) := by
        rw [w13 u8, show wrap64 (8 * (d.length : Int)) = ((8 * d.length : Nat) : Int) from by rw [w64 (by omega) (by omega)]; omega, L.cst_add (by omega)]; rfl
      have hend : ∀ fl : List Bool, fl.length = wl u d → cnt (mk fl) (wl u d) ≤ ps.length → Evt fun k => casematelaw05_BchCorrects.l1 k (u : Int) d x fl ([] : List Int) ([] : List Int) 0 = some true := fun fl hfl hfc => by
        have hwld : wl u d = 13 * u + 8 * d.length := rfl
        have hcs : cnt (mk fl) (wl u d) = cnt (mk fl) (13 * u) + cnt (fun j => mk fl (13 * u + j)) (8 * d.length) := by rw [hwld, cnt_add]
        -- what is turned
        have hin1 : ∀ n ∈ diffs (fun j => mk fl (13 * u + j)) (8 * d.length), n < 8 * d.length := fun n hn => (mem_diffs.1 hn).1
        have hin2 : ∀ n ∈ diffs (mk fl) (13 * u), n < 8 * x.length := fun n hn => by have := (mem_diffs.1 hn).1; rw [x2.len]; clear ewl; omega
        have hT1 : ∀ k, 5000 < k → bits_Turn.f k d (ints (diffs (fun j => mk fl (13 * u + j)) (8 * d.length))) = some (turnb d (diffs (fun j => mk fl (13 * u + j)) (8 * d.length)), 0) := fun k hk => by
          have := cnt_le (fun j => mk fl (13 * u + j)) (8 * d.length)
          unfold cnt at this
          exact b_Turn_ok hb (by clear ewl; omega) (by rw [ints_length]; clear ewl; omega) _ rfl hin1 (by rw [ints_length]; clear ewl; omega)
        have hT2 : ∀ k, 5000 < k → bits_Turn.f k x (ints (diffs (mk fl) (13 * u))) = some (turnb x (diffs (mk fl) (13 * u)), 0) := fun k hk => by
          have := cnt_le (mk fl) (13 * u)
          unfold cnt at this
          exact b_Turn_ok x2.byt (by rw [x2.len]; clear ewl; omega) (by rw [ints_length]; clear ewl; omega) _ rfl hin2 (by rw [ints_length]; clear ewl; omega)
        have w2' : Wok u (turnb d (diffs (fun j => mk fl (13 * u + j)) (8 * d.length))) (turnb x (diffs (mk fl) (13 * u))) := ⟨u1, u8, turnb_byt hb _, turnb_byt x2.byt _, by rw [turnb_length]; clear ewl; omega, by rw [turnb_length]; clear ewl; omega, by rw [turnb_length]; exact x2.len⟩
        have hF : Bd (⟨fun i => decide (i < wl u d) && mk fl i⟩ : Ser Bool) (wl u d) := fun i hi => by
          show (decide (i < wl u d) && mk fl i) = false
          rw [decide_eq_false (by clear ewl; omega)]; rfl
        have hwd : wd u (turnb d (diffs (fun j => mk fl (13 * u + j)) (8 * d.length))) (turnb x (diffs (mk fl) (13 * u))) = wd u d x + ⟨fun i => decide (i < wl u d) && mk fl i⟩ := Ser.ext fun i => by
          rw [add_c]
          show (if i < 13 * u then bitAt (turnb x _) i else bitAt (turnb d _) (i - 13 * u)) = ((if i < 13 * u then bitAt x i else bitAt d (i - 13 * u)) ^^ (decide (i < wl u d) && mk fl i))
          by_cases hi : i < 13 * u
          · rw [if_pos hi, if_pos hi, bitAt_turnb hin2, odds_diffs, decide_eq_true hi, decide_eq_true (show i < wl u d by rw [hwld]; clear ewl; omega)]
          · rw [if_neg hi, if_neg hi, bitAt_turnb hin1, odds_diffs, show 13 * u + (i - 13 * u) = i from by clear ewl; omega, show decide (i - 13 * u < 8 * d.length) = decide (i < wl u d) from decide_eq_decide.2 (by rw [hwld]; clear ewl; omega)]
        have hcF : cnt (fun i => decide (i < wl u d) && mk fl i) (wl u d) = cnt (mk fl) (wl u d) := cnt_congr fun i hi => by rw [decide_eq_true hi, Bool.true_and]
        have hD := corrects wx (x2.code u8) x2.up w2' (turnb_length _ _) ⟨fun i => decide (i < wl u d) && mk fl i⟩ hF hwd (by
          show cnt (fun i => decide (i < wl u d) && mk fl i) (wl u d) ≤ u
          rw [hcF]; clear ewl; omega)
        have hcF2 : cnt (⟨fun i => decide (i < wl u d) && mk fl i⟩ : Ser Bool).c (wl u d) = cnt (mk fl) (wl u d) := hcF
        rw [hcF2] at hD
        obtain ⟨K, hK⟩ := hD.and awake
        refine Evt.of (2 * (wl u d) + (K + 5002)) fun k hk => ?_
        have := cor_l1 (m := x) u8 (d := d) (fl := fl) (by rw [hfl]; clear ewl; omega) (K + 5002) (fun k hk => by
          obtain ⟨k, rfl⟩ := fuel (k_pos hk)
          obtain ⟨hk5, hk6⟩ := k_help hk
          obtain ⟨g1, g2⟩ := hK k hk6
          rw [hfl, show min (13 * u) (wl u d) = 13 * u from Nat.min_eq_left (by have := hwld; clear ewl; omega), show wl u d - 13 * u = 8 * d.length from by have := hwld; clear ewl; omega]
          rw [casematelaw05_BchCorrects.l1, if_neg (by rw [hfl]; clear ewl; omega), hT1 k hk5, Option.bind_some, hT2 k hk5, Option.bind_some]
          dsimp only
          rw [g1, Option.bind_some, g2, Option.bind_some]
          dsimp only
          rw [if_pos rfl, if_pos rfl, if_pos rfl, if_pos rfl, ints_length, ints_length]
          have hd1 : (diffs (mk fl) (13 * u)).length = cnt (mk fl) (13 * u) := rfl
          have hd2 : (diffs (fun j => mk fl (13 * u + j)) (8 * d.length)).length = cnt (fun j => mk fl (13 * u + j)) (8 * d.length) := rfl
          rw [hd1, hd2, L.cst_add (by have h3 := cnt_le (mk fl) (13 * u); have h4 := cnt_le (fun j => mk fl (13 * u + j)) (8 * d.length); clear ewl; omega), hcs]
          simp) fl.length 0 k (by omega) (by rw [hfl]; exact hk)
        rw [show min (13 * u) 0 = 0 from by omega, show 0 - 13 * u = 0 from by omega] at this
        exact this
      have hl0 := cor_l0 (t := u) (d := d) (m := x) (ps := ps) (by omega) (n := wl u d) (by omega) hend ps.length 0 (List.replicate (wl u d) false) (by omega) (by simp) (by
        have : cnt (mk (List.replicate (wl u d) false)) (wl u d) = 0 := cnt_none fun i hi => by
          unfold mk
          simp [List.getElem?_replicate]
          split <;> rfl
        omega)
      have hj1 : Evt fun k => casematelaw05_BchCorrects.j1 k (u : Int) d ps x false = some true := hl0.step fun k g => by
        rw [casematelaw05_BchCorrects.j1, if_neg (by simp), ewl, if_pos (by clear ewl; omega), Int.toNat_natCast, if_pos (by clear ewl; omega)]
        exact g
      have hj0 : Evt fun k => casematelaw05_BchCorrects.j0 k (u : Int) d ps false = some true := (x1.and hj1).step fun k ⟨g1, g2⟩ => by
        rw [casematelaw05_BchCorrects.j0, if_neg (by simp), g1, Option.bind_some, if_pos rfl, r5_Bytes u8, Option.bind_some]
        dsimp only
        rw [x2.len, show (((mb u : Nat) : Int) != ((mb u : Nat) : Int)) = false from by simp]
        exact g2
      refine hj0.mono fun k g => ?_
      unfold casematelaw05_BchCorrects.f
      rw [hsm, Option.bind_some, if_pos rfl, if_neg (by clear ewl; omega), if_neg (by clear ewl; omega), if_neg (by clear ewl; omega), decide_eq_false (by clear ewl; omega)]
      exact g
    · refine hT.mono fun k g => ?_
      unfold casematelaw05_BchCorrects.f
      rw [hsm, Option.bind_some, if_pos rfl]
      by_cases h0 : (d.length : Int) = 0
      · rw [if_pos h0]; exact g
      · rw [if_neg h0]
        by_cases h1 : t < 1
        · rw [if_pos h1]; exact g
        · rw [if_neg h1]
          by_cases h8 : t > 8
          · rw [if_pos h8]; exact g
          · rw [if_neg h8, decide_eq_true (by omega)]; exact g
  · refine hT.mono fun k g => ?_
    unfold casematelaw05_BchCorrects.f
    rw [l_small, Option.bind_some, if_neg (by simp; omega)]
    exact g
end Go.Proofs.Ytbaiildpabdlpaa.Pure

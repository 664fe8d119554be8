/- The pure statement of the law BchLinear: what the printed function of the law comes to is true at every input. No condition. -/
import Derived.Test.YtbaiildpabdlpaaBch
import Derived.Test.YtbaiildpabdlpaaPx23
import Derived.Test.YtbaiildpabdlpaaPx1
import Derived.Test.YtbaiildpabdlpaaPx8
import Derived.Test.YtbaiildpabdlpaaPx20
import Derived.Test.YtbaiildpabdlpaaPx22
set_option linter.unusedVariables false
set_option linter.unusedSimpArgs false
namespace Go.Proofs.Ytbaiildpabdlpaa.Pure
open Go Go.RowKit Go.Proofs.Ytbaiildpabdlpaa.P Go.Proofs.YtbaiildpabdlpaaW.PrintWords Go.Proofs.YtbaiildpabdlpaaW.PrintLast Go.Proofs.YtbaiildpabdlpaaW.PrintMore Go.Proofs.CsM Go.Proofs.Ytbaiildpabdlpaa.L
theorem apart_odds (a b : List Int) (i : Nat) (hl : a.length = b.length) : odds (apart a b) i = (bitAt a i ^^ bitAt b i) := by
  unfold apart
  rw [odds_diffs]
  by_cases h : i < 8 * a.length
  · rw [decide_eq_true h, Bool.true_and]
  · rw [decide_eq_false h, Bool.false_and, bitAt_out (by omega), bitAt_out (by omega)]; rfl
/-- Where two rows are unlike, turned in noughts: their sum. -/
def sumb (a b : List Int) : List Int := turnb (List.replicate a.length 0) (apart a b)
theorem sumb_is {a b : List Int} (hl : a.length = b.length) : Byt (sumb a b) ∧ (sumb a b).length = a.length ∧ toB (sumb a b) = toB a + toB b := by
  refine ⟨turnb_byt (Byt.zeros _) _, by unfold sumb; rw [turnb_length]; simp, Ser.ext fun i => ?_⟩
  show bitAt (turnb _ _) i = (bitAt a i ^^ bitAt b i)
  rw [bitAt_turnb (fun p hp => by have := apart_lt a b p hp; simpa using this), apart_odds a b i hl]
  have : bitAt (List.replicate a.length 0) i = false := by have := congrArg (fun f => f.c i) (toB_zeros a.length); exact this
  rw [this, Bool.false_xor]
theorem c_sumb {a b : List Int} (ha : Byt a) (hb : Byt b) (hl : a.length = b.length) (hn : a.length ≤ 1000) : Evt fun k => bits_Apart.f k a b = some (ints (apart a b), 0) ∧ bits_Turn.f k (List.replicate a.length 0) (ints (apart a b)) = some (sumb a b, 0) := by
  have hle := apart_le a b
  refine Evt.of (10 * a.length + 8 * a.length) fun k hk => ⟨b_Apart_ok ha hb (by omega) hl (by omega), b_Turn_ok (Byt.zeros _) (by simp; omega) (by rw [ints_length]; omega) _ rfl (fun n hn => by have := apart_lt a b n hn; simpa using this) (by rw [ints_length]; omega)⟩
theorem lin_l0 {t : Nat} (h8 : t ≤ 8) {v u : List Int} (hv : v.length = 2 * t) (hu : u.length = 2 * t) (hz : ∀ i, i < v.length → v.getD i 0 = 0) (K : Nat) (hR : ∀ k, K ≤ k → casematelaw05_awake.f k = some true) :
    ∀ (e i k : Nat) (ok : Bool), i + e = 2 * t → (ok = true ∨ ∃ j, i ≤ j ∧ j < 2 * t ∧ u.getD j 0 ≠ 0) → e + K < k → casematelaw05_BchLinear.l0 k (t : Int) v u ok (i : Int) = some true
  | 0, i, k, ok, hi, ho, hk => by
    obtain ⟨k, rfl⟩ := fuel hk
    rw [casematelaw05_BchLinear.l0, w2 h8, if_neg (by omega), hR k (by omega), Option.bind_some, if_pos rfl]
    rcases ho with rfl | ⟨j, h1, h2, _⟩
    · rfl
    · omega
  | e + 1, i, k, ok, hi, ho, hk => by
    obtain ⟨k, rfl⟩ := fuel hk
    have e2 : wrap64 ((i : Int) + 1) = ((i + 1 : Nat) : Int) := by rw [w64 (by omega) (by omega)]; omega
    rw [casematelaw05_BchLinear.l0, w2 h8, if_pos (by clear e2; omega), if_pos (by clear e2; omega), if_pos (by clear e2; omega), rd_nat, if_pos (hz i (by clear e2; omega)), e2]
    by_cases hok : ok = true
    · rw [if_pos hok]
      exact lin_l0 h8 hv hu hz K hR e (i + 1) k true (by clear e2; omega) (.inl rfl) (by clear e2; omega)
    · rw [if_neg hok, if_pos (by clear e2; omega), rd_nat]
      refine lin_l0 h8 hv hu hz K hR e (i + 1) k _ (by clear e2; omega) ?_ (by clear e2; omega)
      by_cases h0 : u.getD i 0 = 0
      · refine .inr ?_
        rcases ho with h | ⟨j, h1, h2, h3⟩
        · exact absurd h hok
        · exact ⟨j, by have : j ≠ i := fun e => h3 (by rw [e]; exact h0)
                       clear e2; omega, h2, h3⟩
      · exact .inl (bne_iff_ne.2 h0)
theorem BchLinear : casematelaw05_BchLinear.Pure := by
  intro t a b p ht ha1 ha2 ha3 hb1 hb2 hb3 hp
  have ha := byt_wf ha3
  have hb := byt_wf hb3
  have hT : Evt fun k => casematelaw05_BchLinear.j0 k t a b p true = some true := Evt.of 0 fun k hk => by
    obtain ⟨k, rfl⟩ := fuel hk
    rw [casematelaw05_BchLinear.j0, if_pos rfl]
  refine Evt.get ?_
  by_cases hs : a.length ≤ 40 ∧ b.length ≤ 40
  · have hsm : casematelaw05_small.f a b = some true := by rw [l_small, decide_eq_true hs]
    have e8 : wrap64 (8 * (a.length : Int)) = ((8 * a.length : Nat) : Int) := by rw [w64 (by omega) (by omega)]; omega
    by_cases hok : a.length ≠ 0 ∧ a.length = b.length ∧ ¬ (t < 1 ∨ t > 8) ∧ 0 ≤ p ∧ p < ((8 * a.length : Nat) : Int)
    · obtain ⟨h0, hl, ht8, hp0, hp1⟩ := hok
      obtain ⟨u, rfl, u1, u8⟩ := nat_of ht8
      obtain ⟨q, rfl⟩ := Int.eq_ofNat_of_zero_le hp0
      obtain ⟨s1, s2, s3⟩ := sumb_is hl
      obtain ⟨x, x1, x2⟩ := c_Encode u1 u8 ha (by clear e8; omega) (by clear e8; omega)
      obtain ⟨y, y1, y2⟩ := c_Encode u1 u8 hb (by clear e8; omega) (by clear e8; omega)
      obtain ⟨z, z1, z2⟩ := c_Encode u1 u8 s1 (by clear e8; omega) (by clear e8; omega)
      have hxy : x.length = y.length := x2.len.trans y2.len.symm
      obtain ⟨v1, v2, v3⟩ := sumb_is hxy
      have wx := x2.wok u1 u8 ha (by clear e8; omega) (by clear e8; omega)
      have hmbl := mb_lt u
      have hwlb : wl u b = wl u a := by unfold wl; rw [hl]
      have hwls : wl u (sumb a b) = wl u a := by unfold wl; rw [s2]
      -- the sum of two code words is the code word of the sum
      have hzv : sumb x y = z := by
        have hup : ∀ j, 13 * u ≤ j → bitAt (sumb x y) j = false := fun j hj => by
          have := congrArg (fun f => f.c j) v3
          have h : bitAt (sumb x y) j = (bitAt x j ^^ bitAt y j) := this
          rw [h, x2.up j hj, y2.up j hj]; rfl
        refine z2.unique u8 v1 (v2.trans x2.len) hup ?_
        rw [wd_eq hup, v3, s3, R2.mul_add, hwls, show toB x + toB y + (pw XX (13 * u) * toB a + pw XX (13 * u) * toB b) = (toB x + pw XX (13 * u) * toB a) + (toB y + pw XX (13 * u) * toB b) from by ac_rfl, ← x2.wd, ← y2.wd]
        exact code_add (x2.code u8) (by rw [← hwlb]; exact y2.code u8)
      -- one bit turned
      have hq : q < 8 * a.length := by clear e8; omega
      have hfl : bits_Turn.f 100 a [(q : Int)] = some (flipb a q, 0) ∧ ∀ k, 1 < k → bits_Turn.f k a [(q : Int)] = some (flipb a q, 0) := by
        have : ∀ k, 1 < k → bits_Turn.f k a [(q : Int)] = some (flipb a q, 0) := fun k hk => b_Turn_ok ha (by clear e8; omega) (by simp [ints]) [q] rfl (by simpa using hq) (by simpa [ints] using hk)
        exact ⟨this 100 (by omega), this⟩
      have wc : Wok u (flipb a q) x := ⟨u1, u8, flipb_byt ha q, x2.byt, by rw [flipb_length]; clear e8; omega, by rw [flipb_length]; clear e8; omega, x2.len⟩
      have hwlc : wl u (flipb a q) = wl u a := by unfold wl; rw [flipb_length]
      have hwdc : wd u (flipb a q) x = wd u a x + mono (13 * u + q) true := by
        have htb : toB (flipb a q) = toB a + mono q true := Ser.ext fun i => by
          rw [add_c, mono_c, Bool.and_true]
          exact bitAt_flipb hq i
        rw [wd_eq x2.up, x2.wd, htb, R2.mul_add, ← R2.add_assoc, mono_true, mono_true, pw_add]
      have hwx := wx.wl_le
      have hsum : ∃ j, 0 ≤ j ∧ j < 2 * u ∧ (sml u (wd u (flipb a q) x) (wl u a)).getD j 0 ≠ 0 := by
        refine Classical.byContradiction fun hno => ?_
        have hcode : L.Code u (wd u (flipb a q) x) (wl u a) := (sml_zero u _ _).1 fun i hi => Classical.byContradiction fun e => hno ⟨i, Nat.zero_le _, by rw [sml_length] at hi; exact hi, e⟩
        have hm := code_add hcode (x2.code u8)
        rw [hwdc, R2.add_comm, r_add_cancel_left] at hm
        have hz := word_far (f := mono (13 * u + q) true) (n := wl u a) (t := u) (by clear e8; omega) ((mono_bd _ _).mono (by unfold wl; clear e8; omega)) hm (by
          have : cnt (mono (13 * u + q) true).c (wl u a) ≤ 2 * u := by
            have h1 : cnt (mono (13 * u + q) true).c (wl u a) ≤ 1 := by
              have h2 : ∀ n, cnt (mono (13 * u + q) true).c n = if 13 * u + q < n then 1 else 0 := fun n => by
                induction n with
                | zero => rfl
                | succ n ih =>
                  rw [cnt_succ, ih, mono_c, Bool.and_true]
                  by_cases e : n = 13 * u + q
                  · rw [decide_eq_true e, if_pos rfl, if_neg (by clear e8; omega), if_pos (by clear e8; omega)]
                  · rw [decide_eq_false e, if_neg (show ¬ (false = true) by decide)]
                    by_cases e3 : 13 * u + q < n
                    · rw [if_pos e3, if_pos (by clear e8; omega)]
                    · rw [if_neg e3, if_neg (by clear e8; omega)]
              rw [h2]; split <;> omega
            clear e8; omega
          exact this)
        have := congrArg (fun f => f.c (13 * u + q)) hz
        rw [mono_c] at this
        simp at this
      have hS1 := c_Sums wx
      have hS2 := c_Sums wc
      rw [hwlc] at hS2
      obtain ⟨K, hK⟩ := awake
      have hj1 : Evt fun k => casematelaw05_BchLinear.j1 k (u : Int) (sml u (wd u a x) (wl u a)) (sml u (wd u (flipb a q) x) (wl u a)) false = some true := Evt.of (2 * u + K + 1) fun k hk => by
        obtain ⟨k, rfl⟩ := fuel hk
        rw [casematelaw05_BchLinear.j1, if_neg (by simp)]
        exact lin_l0 u8 (sml_length _ _ _) (sml_length _ _ _) ((sml_zero u _ _).2 (x2.code u8)) K (fun k hk => hK k hk) (2 * u) 0 k false (by omega) (.inr hsum) (by clear e8; omega)
      have hj0 : Evt fun k => casematelaw05_BchLinear.j0 k (u : Int) a b (q : Int) false = some true := by
        refine (((c_sumb ha hb hl (by clear e8; omega)).and (x1.and (y1.and z1))).and (((c_sumb x2.byt y2.byt hxy (by rw [x2.len]; clear e8; omega)).and (hS1.and hS2)).and (hj1.and (Evt.of 1 fun k hk => hk)))).step fun k ⟨⟨⟨g1, g2⟩, g3, g4, g5⟩, ⟨⟨g6, g7⟩, g8, g9⟩, g10, g11⟩ => ?_
        rw [casematelaw05_BchLinear.j0, if_neg (by simp), g1, Option.bind_some, if_pos (by clear e8; omega), Int.toNat_natCast, if_pos (by clear e8; omega)]
        dsimp only
        rw [g2, Option.bind_some, g3, Option.bind_some, g4, Option.bind_some]
        dsimp only
        rw [g5, Option.bind_some]
        dsimp only
        rw [g6, Option.bind_some, if_pos (by clear e8; omega), if_pos (by rw [x2.len, Int.toNat_natCast]; clear e8; omega), Int.toNat_natCast]
        dsimp only
        rw [g7, Option.bind_some, g8, Option.bind_some, hfl.2 k g11, Option.bind_some]
        dsimp only
        rw [g9, Option.bind_some]
        dsimp only
        rw [if_pos rfl, if_pos rfl, if_pos rfl, if_pos rfl, if_pos rfl, if_pos rfl, if_pos rfl, hzv, if_pos rfl, w2 u8, if_pos (by rw [sml_length]), sml_length, show (((2 * u : Nat) : Int) != ((2 * u : Nat) : Int)) = false from by simp]
        exact g10
      refine hj0.mono fun k g => ?_
      unfold casematelaw05_BchLinear.f
      rw [hsm, Option.bind_some, if_pos rfl, if_neg (by clear e8; omega), if_pos (by clear e8; omega), if_neg (by clear e8; omega), if_neg (by clear e8; omega), if_neg (by clear e8; omega), e8, decide_eq_false (by clear e8; omega)]
      exact g
    · refine hT.mono fun k g => ?_
      unfold casematelaw05_BchLinear.f
      rw [hsm, Option.bind_some, if_pos rfl]
      by_cases h0 : (a.length : Int) = 0
      · rw [if_pos h0]; exact g
      · rw [if_neg h0]
        by_cases hl : (a.length : Int) = (b.length : Int)
        · rw [if_pos hl]
          by_cases h1 : t < 1
          · rw [if_pos h1]; exact g
          · rw [if_neg h1]
            by_cases h8 : t > 8
            · rw [if_pos h8]; exact g
            · rw [if_neg h8]
              by_cases hp0 : p < 0
              · rw [if_pos hp0]; exact g
              · rw [if_neg hp0, e8, decide_eq_true (by clear e8; omega)]; exact g
        · rw [if_neg hl]; exact g
  · refine hT.mono fun k g => ?_
    unfold casematelaw05_BchLinear.f
    rw [l_small, Option.bind_some, if_neg (by simpa using hs)]
    exact g
end Go.Proofs.Ytbaiildpabdlpaa.Pure

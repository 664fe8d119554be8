/- What Go functions of the translation come to, and that their calls come to just that. No condition but that the plain function answers. -/
import Derived.Test.YtfpdloccmneabaaPx0
import Derived.Test.YtfpdloccmneabaaPx6
import Derived.Test.YtfpdloccmneabaaPx10
import Derived.Test.YtfpdloccmneabaaUp
namespace Go.Proofs.Ytfpdloccmneabaa.P
open Go.RowKit Go.Proofs.YtfpdloccmneabaaW.PrintWords Go.Proofs.YtfpdloccmneabaaW.PrintLast Go.Proofs.YtfpdloccmneabaaW.PrintMore
attribute [local go_sem] max2_int min2_int max_two min_two max_three min_three max_four min_four   -- for this text's walks alone
set_option linter.unusedVariables false
set_option linter.unusedSimpArgs false
def cpy (l y : List Int) : List Int := l.take (min l.length y.length) ++ y.drop (min l.length y.length)
def bpoly_Mod.l0 : Nat → List Int → Int → List Int → Int → Option (List Int × Int)
 | 0, _, _, _, _ => none
 | k + 1, x1, x6, x7, x8 => if x8 ≥ x6 then ((bpoly_one.f x7 x8).bind fun t289 => (if t289 = true then ((bpoly_add.f k x7 x1 (wrap64 (x8 - x6))).bind fun t290 => (bpoly_Mod.l0 k x1 x6 t290 (wrap64 (x8 - 1)))) else (bpoly_Mod.l0 k x1 x6 x7 (wrap64 (x8 - 1))))) else ((bpoly_norm.f k x7).bind fun t286 => (some (t286, 0)))
def bpoly_Mod.f (k : Nat) (l0 : List Int) (l1 : List Int) : Option (List Int × Int) := (bpoly_norm.f k l1).bind fun t279 => ((bpoly_Degree.f k t279).bind fun t282 => (if t282 < 0 then (some (([] : List Int), 20)) else (if 0 ≤ (wrap64 ((l0.length : Int) + 1)) then (if (wrap64 ((l0.length : Int) + 1) : Int).toNat ≤ 281474976710656 then (bpoly_Mod.l0 k t279 t282 (cpy l0 (List.replicate (wrap64 ((l0.length : Int) + 1) : Int).toNat 0)) (wrap64 ((wrap64 (8 * (l0.length : Int))) - 1))) else (none)) else (none))))
theorem bpoly_Mod.mono_l : ∀ k, (∀ y0 y1 y2 y3, LeO (bpoly_Mod.l0 k y0 y1 y2 y3) (bpoly_Mod.l0 (k + 1) y0 y1 y2 y3))
 | 0 => fun _ _ _ _ r h => by simp [bpoly_Mod.l0] at h
 | k + 1 => by
  have ih0 := bpoly_Mod.mono_l k
  ·intro y0 y1 y2 y3
   unfold bpoly_Mod.l0
   repeat' first
   | (with_reducible exact ih0 _ _ _ _)
   | (with_reducible exact bpoly_Degree.mono _ _)
   | (with_reducible exact bpoly_add.mono _ _ _ _)
   | (with_reducible exact bpoly_norm.mono _ _)
   | (with_reducible exact LeO.refl _)
   | (with_reducible exact LeO.none _)
   | (with_reducible refine LeO.ite ?_ ?_)
   | (with_reducible refine LeO.bind ?_ (fun _ => ?_))
   | exact ih0 _ _ _ _
   | exact bpoly_Degree.mono _ _
   | exact bpoly_add.mono _ _ _ _
   | exact bpoly_norm.mono _ _
   | exact LeO.none _
   | refine LeO.ite ?_ ?_
   | refine LeO.bind ?_ (fun _ => ?_)
theorem bpoly_Mod.mono : ∀ a0 a1 k, LeO (bpoly_Mod.f k a0 a1) (bpoly_Mod.f (k + 1) a0 a1) := by
 intro a0 a1 k
 have ih0 := bpoly_Mod.mono_l k
 unfold bpoly_Mod.f
 repeat' first
   | (with_reducible exact ih0 _ _ _ _)
   | (with_reducible exact bpoly_Degree.mono _ _)
   | (with_reducible exact bpoly_add.mono _ _ _ _)
   | (with_reducible exact bpoly_norm.mono _ _)
   | (with_reducible exact LeO.refl _)
   | (with_reducible exact LeO.none _)
   | (with_reducible refine LeO.ite ?_ ?_)
   | (with_reducible refine LeO.bind ?_ (fun _ => ?_))
   | exact ih0 _ _ _ _
   | exact bpoly_Degree.mono _ _
   | exact bpoly_add.mono _ _ _ _
   | exact bpoly_norm.mono _ _
   | exact LeO.none _
   | refine LeO.ite ?_ ?_
   | refine LeO.bind ?_ (fun _ => ?_)
theorem norm_is : ∀ {k : Nat} {l r : List Int}, l.length ≤ 9223372036854775807 → bpoly_norm.l0 k l = some r → ∃ m, m ≤ l.length ∧ r = l.take m ∧ (∀ j, m ≤ j → l.getD j 0 = 0) ∧ (0 < m → l.getD (m - 1) 0 ≠ 0)
 | 0, l, r, _, h => by simp [bpoly_norm.l0] at h
 | k + 1, l, r, hl, h => by
  rw [bpoly_norm.l0] at h
  by_cases h0 : (l.length : Int) > 0
  ·rw [if_pos h0] at h
   by_cases h1 : 0 ≤ wrap64 ((l.length : Int) - 1)
   ·rw [if_pos h1] at h
    by_cases h2 : wrap64 ((l.length : Int) - 1) < (l.length : Int)
    ·rw [if_pos h2] at h
     have e : wrap64 ((l.length : Int) - 1) = ((l.length - 1 : Nat) : Int) := by unfold wrap64; omega
     rw [e] at h
     have e2 : rd l ((l.length - 1 : Nat) : Int) = l.getD (l.length - 1) 0 := by unfold rd; rw [Int.toNat_natCast]
     rw [e2] at h
     by_cases h3 : l.getD (l.length - 1) 0 = 0
     ·rw [if_pos h3] at h
      rw [if_pos (by omega), Int.toNat_natCast] at h
      obtain ⟨m, hm, hr, hz, hn⟩ := norm_is (by rw [List.length_take]; omega) h
      rw [List.length_take] at hm
      refine ⟨m, by omega, ?_, fun j hj => ?_, fun hm0 => ?_⟩
      ·rw [hr, List.take_take, Nat.min_eq_left (by omega)]
      ·by_cases hj2 : j < l.length - 1
       ·have := hz j hj
        rwa [List.getD_eq_getElem?_getD, List.getElem?_take, if_pos hj2, ← List.getD_eq_getElem?_getD] at this
       ·by_cases hj3 : j = l.length - 1
        ·subst hj3; exact h3
        ·simp [List.getElem?_eq_none (show l.length ≤ j by omega)]
      ·have := hn hm0
       have hlt : m - 1 < l.length - 1 := by omega
       rwa [List.getD_eq_getElem?_getD, List.getElem?_take, if_pos hlt, ← List.getD_eq_getElem?_getD] at this
     ·rw [if_neg h3] at h
      obtain rfl := Option.some.inj h
      exact ⟨l.length, Nat.le_refl _, by rw [List.take_length], fun j hj => by simp [List.getElem?_eq_none hj], fun _ => h3⟩
    ·rw [if_neg h2] at h; exact absurd h (by simp)
   ·rw [if_neg h1] at h; exact absurd h (by simp)
  ·rw [if_neg h0] at h
   obtain rfl := Option.some.inj h
   have : l.length = 0 := by omega
   exact ⟨0, by omega, by rw [List.take_zero]; exact List.eq_nil_of_length_eq_zero this, fun j hj => by simp [List.getElem?_eq_none (show l.length ≤ j by omega)], fun h => absurd h (by omega)⟩
theorem norm_cut_same {l : List Int} {m m' : Nat} (h1 : ∀ j, m ≤ j → l.getD j 0 = 0) (h2 : 0 < m → l.getD (m - 1) 0 ≠ 0) (h1' : ∀ j, m' ≤ j → l.getD j 0 = 0) (h2' : 0 < m' → l.getD (m' - 1) 0 ≠ 0) : m = m' := by
 rcases Nat.lt_trichotomy m m' with h | h | h
 ·exact absurd (h1 (m' - 1) (by omega)) (h2' (by omega))
 ·exact h
 ·exact absurd (h1' (m - 1) (by omega)) (h2 (by omega))
theorem R_norm_cut {w : World} {base : Nat} {ok : Nat → Prop} {A : Option Addr} {c m : Nat} {l r : List Int} (h : Kd.R (Kd.int .u8) 5 w base ok (.slice A l.length c) l) (hm : m ≤ l.length) (hz : ∀ j, m ≤ j → l.getD j 0 = 0) (hn : 0 < m → l.getD (m - 1) 0 ≠ 0) (hr : ∃ m, m ≤ l.length ∧ r = l.take m ∧ (∀ j, m ≤ j → l.getD j 0 = 0) ∧ (0 < m → l.getD (m - 1) 0 ≠ 0)) : Kd.R (Kd.int .u8) 5 w base (fun _ => True) (.slice A m c) r := by
 obtain ⟨m', hm', rfl, hz', hn'⟩ := hr
 obtain rfl := norm_cut_same hz hn hz' hn'
 have ho := Kd.own_of_R h
 rcases ho.2 with ⟨h0, h1⟩ | ⟨g, cap, cur, hv, hg, hh, h1, h2, h3, h4⟩
 ·injection h0 with a b c'
  subst a; subst c'
  have : m = 0 := by omega
  subst this
  rw [List.take_zero]
  exact Kd.R_nil _ _ _ _ _
 ·injection hv with a b c'
  subst a; subst c'
  have h5 := own_take ho hm
  have h6 : (encs (Value.int .u8) l).take (m * 1) = encs (Value.int .u8) (l.take m) := by rw [Nat.mul_one]; simp [encs, List.map_take]
  rw [h6] at h5
  have h7 : (l.take m).length = m := by rw [List.length_take]; omega
  exact Kd.R_of_own (h1 := fun _ => rfl) (by rw [h7]; exact h5) (fun _ _ => trivial)
set_option maxHeartbeats 8000000 in
set_option maxRecDepth 100000 in
theorem bpoly_Mod.calls (k : Nat) (A0 : Option Addr) (c0 : Nat) (l0 : List Int) (A1 : Option Addr) (c1 : Nat) (l1 : List Int) (r1 : List Int) (r2 : Int) (w : World) (hr0 : Kd.C (Kd.int .u8) w A0 l0.length l0) (hc0 : l0.length ≤ c0) (hr1 : Kd.C (Kd.int .u8) w A1 l1.length l1) (hc1 : l1.length ≤ c1) (h : bpoly_Mod.f k l0 l1 = some (r1, r2)) :
  Calls Try.prog 49 #[.slice A0 l0.length c0, .slice A1 l1.length c1] w fun e w' => ∃ v0_ : Value, e = .returned (.tuple #[v0_, .int .i64 r2]) ∧ Kd.R (Kd.int .u8) 5 w' w.heap.size (fun _ => True) v0_ r1 ∧ Below w.heap.size w w' := by
 have HR0 := Aside0.mk hr0
 have HC0 := Aside0.mk hc0
 clear hr0 hc0
 have HO1 := Aside0.mk (show Kd.V (Kd.int .u8) 5 w w.heap.size (fun k_ => ((k_ < w.heap.size) ∨ w.heap.size ≤ k_)) (.slice A1 l1.length c1) l1 from Kd.V_mono (Kd.V_mk hc1 (Kd.C_F (Kd.heap_int .u8) hr1)) (fun k_ hk => .inl hk))
 have HB := Aside0.mk (Below.refl w.heap.size w)
 have H := h
 unfold bpoly_Mod.f at H
 clear h
 obtain ⟨t279, A3, H⟩ := uO H
 obtain ⟨t282, A4, H⟩ := uO H
 by_cases c5 : t282 < 0
 ·rw [if_pos c5] at H
  have c5b0 : decide (t282 < 0) = true := decide_eq_true c5
  clear c5
  simp only [Option.some.injEq, Prod.mk.injEq] at H
  obtain ⟨rfl, rfl⟩ := H
  go_enter Try.func49, Try.ntmps49
  go_wp2_with (first | ((with_reducible refine gate_callee (f := 64) rfl ?_); refine uG (some 10) Try.func64 #[.slice A1 l1.length c1] ?_; (with_reducible refine (bpoly_norm.calls k (fun k_ => ((k_ < w.heap.size) ∨ w.heap.size ≤ k_)) _ _ l1 t279 _ ?side1 A3.out).mono ?_); (case side1 => exact HO1.out); rintro e w6 ⟨v280, rfl, ho0, hb⟩; refine ⟨_, rfl, ?_⟩; replace HO1 := uVb HO1 hb; have HO281 := uA (Kd.V_lower (Kd.V_mono (ok' := fun k_ => ((k_ < w.heap.size) ∨ w.heap.size ≤ k_)) ho0 (fun k_ hk_ => Or.elim hk_ (fun hs_ => hs_) (fun hn_ => (.inr (Nat.le_trans (below_size (uB HB.out)) hn_))))) (below_size (uB HB.out))); replace HB := uBb HB hb; obtain ⟨Ao7, co7, eo7⟩ := Kd.V_slice HO281.out; subst eo7) | ((with_reducible refine gate_callee (f := 65) rfl ?_); refine uG (some 12) Try.func65 #[.slice Ao7 t279.length co7] ?_; (with_reducible refine (bpoly_Degree.calls k _ _ t279 t282 _ ?side1 ?side2 A4.out).mono ?_); (case side1 => exact uC (Kd.V_reads' HO281.out).2.2); (case side2 => exact (Kd.V_reads' HO281.out).2.1); rintro e w8 ⟨rfl, hb⟩; refine ⟨_, rfl, ?_⟩; replace HO1 := uVb HO1 hb; replace HO281 := uVb HO281 hb; replace HB := uBb HB hb))
  go_ret2
  exact ⟨.slice none 0 0, by first | rfl | (simp [errW_none, errW_some] <;> rfl) | (simp [*, errW_none, errW_some] <;> rfl), Kd.R_nil _ _ _ _ _, uB HB.out⟩
 ·rw [if_neg c5] at H
  have c5b0 : decide (t282 < 0) = false := decide_eq_false c5
  clear c5
  obtain ⟨ji9, hji9⟩ : ∃ j_ : Int, (wrap64 ((l0.length : Int) + 1)) = j_ := ⟨_, rfl⟩
  first | rw [hji9] at H | simp only [hji9] at H
  (try rw [hji9] at A3)
  (try rw [hji9] at A4)
  have hji9w : (IntKind.i64.wrap ((l0.length : Int) + 1)) = ji9 := (i64_w _).trans hji9
  by_cases c10 : 0 ≤ (ji9)
  ·rw [if_pos c10] at H
   have c10b0 := eq_true c10
   have c10b1 : decide (0 ≤ (ji9)) = true := decide_eq_true c10
   clear c10
   by_cases c11 : (ji9 : Int).toNat ≤ 281474976710656
   ·rw [if_pos c11] at H
    have c11b0 := eq_true c11
    have c11b1 : decide ((ji9 : Int).toNat ≤ 281474976710656) = true := decide_eq_true c11
    clear c11
    obtain ⟨y283, Ny283⟩ := uEA ((List.replicate (ji9 : Int).toNat 0) : List Int)
    rw [← Ny283.out] at H
    have H' := Aside0.mk H
    clear H
    go_enter Try.func49, Try.ntmps49
    go_wp2_with (first | ((with_reducible refine gate_callee (f := 64) rfl ?_); refine uG (some 10) Try.func64 #[.slice A1 l1.length c1] ?_; (with_reducible refine (bpoly_norm.calls k (fun k_ => ((k_ < w.heap.size) ∨ w.heap.size ≤ k_)) _ _ l1 t279 _ ?side1 A3.out).mono ?_); (case side1 => exact HO1.out); rintro e w12 ⟨v280, rfl, ho0, hb⟩; refine ⟨_, rfl, ?_⟩; replace HO1 := uVb HO1 hb; have HO281 := uA (Kd.V_lower (Kd.V_mono (ok' := fun k_ => ((k_ < w.heap.size) ∨ w.heap.size ≤ k_)) ho0 (fun k_ hk_ => Or.elim hk_ (fun hs_ => hs_) (fun hn_ => (.inr (Nat.le_trans (below_size (uB HB.out)) hn_))))) (below_size (uB HB.out))); replace HB := uBb HB hb; obtain ⟨Ao13, co13, eo13⟩ := Kd.V_slice HO281.out; subst eo13) | ((with_reducible refine gate_callee (f := 65) rfl ?_); refine uG (some 12) Try.func65 #[.slice Ao13 t279.length co13] ?_; (with_reducible refine (bpoly_Degree.calls k _ _ t279 t282 _ ?side1 ?side2 A4.out).mono ?_); (case side1 => exact uC (Kd.V_reads' HO281.out).2.2); (case side2 => exact (Kd.V_reads' HO281.out).2.1); rintro e w14 ⟨rfl, hb⟩; refine ⟨_, rfl, ?_⟩; replace HO1 := uVb HO1 hb; replace HO281 := uVb HO281 hb; replace HB := uBb HB hb) | ((with_reducible refine gate_dst (N := 18) rfl ?_); refine Kd.R_make (Kd.int .u8) _ 5 rfl (N := 18) rfl 26 _ _ rfl ji9 rfl rfl Try.underlying26 (.int .u8 0) 1 info5 rfl (by decide) (by omega) 0 (ok := fun _ => True) (okp := fun _ => True) rfl (fun _ hk => hk) trivial (of_decide_eq_true (by first | (with_reducible assumption) | assumption)) (Nat.le_trans (Nat.mul_le_mul_right _ (of_decide_eq_true (by first | (with_reducible assumption) | assumption) : ji9.toNat ≤ 281474976710656)) (by omega)) (Below.refl _ _) (Nat.le_refl _) ?_; intro v284 w15 ho16 hb hg_ hnew_; clear hg_ hnew_; (first | rw [← Ny283.out] at ho16 | (simp only [Int.reduceToNat] at ho16; rw [← Ny283.out] at ho16)); replace HO1 := uA (Kd.V_elder' (uV HO1.out) (Kd.R_base ho16) hb); replace HO281 := uA (Kd.V_elder' (uV HO281.out) (Kd.R_base ho16) hb); have HO285 := uA (Kd.R_lower (Kd.R_newM (M := fun k_ => (w.heap.size ≤ k_)) ho16 (below_size (uB HB.out)) (fun k_ h_ => h_)) (below_size (uB HB.out))); replace HB := uBb HB hb; clear hb ho16) | ((with_reducible refine gate_dst (N := 21) rfl ?_); refine Kd.R_copy (enc := Value.int .u8) 0 w.heap.size rfl (.tmp 19) (.tmp 20) 26 26 5 rfl Try.underlying26 (by kernel_rfl) v284 y283 l0 A0 l0.length c0 _ rfl rfl HO285.out (Kd.C_below HR0.out HB.out) HB.out HB.out.size ?_; intro w6 ho7 hb7 hg7; have m0_ := Aside0.mk (Kd.V_grown HO1.out hg7 (fun k_ hk_ => hk_.2)); have m1_ := Aside0.mk (Kd.V_grown HO281.out hg7 (fun k_ hk_ => hk_.2)); clear HO1 HO281 HO285 HB; have HO1 := m0_; have HO281 := m1_; have HO285 := Aside0.mk ho7; have HB := Aside0.mk hb7; clear hb7 ho7 hg7 m0_ m1_))
    go_loopg [8] k (fun kq v8 w' => ∃ (x7_1 : List Int) (x8_1 : Int), v8 = .int .i64 x8_1 ∧ Aside0 (bpoly_Mod.l0 kq t279 t282 x7_1 x8_1 = some (r1, r2)) ∧ Aside0 (kq ≤ k) ∧ Aside0 (Kd.V (Kd.int .u8) 5 w' w.heap.size (fun k_ => ((k_ < w.heap.size) ∨ w.heap.size ≤ k_) ∧ some k_ ≠ (v284 : Value).ownBlock) (.slice Ao13 t279.length co13) t279) ∧ Aside0 (Kd.R (Kd.int .u8) 5 w' w.heap.size (fun k_ => (w.heap.size ≤ k_)) v284 x7_1) ∧ Aside0 (Below w.heap.size w w'))
    case atStart => exact ⟨(cpy l0 y283), (wrap64 ((wrap64 (8 * (l0.length : Int))) - 1)), rfl, H', ⟨Nat.le_refl _⟩, ⟨uV HO281.out⟩, ⟨by (with_reducible repeat (first | apply Kd.R_alloc | apply Kd.R_drewN | apply Kd.R_drew)); exact Kd.R_mono HO285.out (fun _ hk => hk.1)⟩, ⟨uB HB.out⟩⟩
    case round =>
     clear H'
     obtain ⟨x7_1, x8_1, rfl, HA, HK1, HO_1, HO_7, HB⟩ := hrel
     cases gk with
     | zero => exact absurd HA.out (by simp [bpoly_Mod.l0])
     | succ k1 =>
      have H := HA.out
      clear HA
      simp only [bpoly_Mod.l0] at H
      by_cases c17 : x8_1 ≥ t282
      ·rw [if_pos c17] at H
       have c17b0 : decide (t282 ≤ x8_1) = true := decide_eq_true c17
       clear c17
       obtain ⟨t289, A18, H⟩ := uO H
       by_cases c19 : t289 = true
       ·subst c19
        replace H := uI rfl H
        obtain ⟨t290, A20, H⟩ := uO H
        have H' := Aside0.mk H
        clear H
        obtain ⟨Ao21, co21, eo21⟩ := Kd.R_slice HO_7.out
        subst eo21
        go_wp2_with (first | ((with_reducible refine gate_callee (f := 66) rfl ?_); refine uG (some 33) Try.func66 #[.slice Ao21 x7_1.length co21, .int .i64 x8_1] ?_; (with_reducible refine (bpoly_one.calls _ _ x7_1 x8_1 true _ ?side1 ?side2 A18.out).mono ?_); (case side1 => exact uC (Kd.R_reads' HO_7.out).2.2); (case side2 => exact (Kd.R_reads' HO_7.out).2.1); rintro e w' ⟨rfl, ⟨nd, rfl⟩⟩; refine ⟨_, rfl, ?_⟩) | ((with_reducible refine gate_callee (f := 67) rfl ?_); refine uG (some 39) Try.func67 #[.slice Ao21 x7_1.length co21, .slice Ao13 t279.length co13, .int .i64 (wrap64 (x8_1 - t282))] ?_; (with_reducible refine (bpoly_add.calls k1 (fun k_ => some k_ = (.slice Ao21 x7_1.length co21 : Value).ownBlock) (.slice Ao21 x7_1.length co21) x7_1 _ _ t279 (wrap64 (x8_1 - t282)) t290 w _ ?side1 ?side2 ?side3 ?side4 A20.out).mono ?_); (case side1 => repeat (first | (with_reducible first | exact HB.out | apply below_alloc | apply pw_below_drewN | apply below_drew1) | exact HB.out)); (case side2 => exact Kd.R_tight rfl HO_7.out); (case side3 => exact Kd.C_kept_ownV (Kd.V_drewN HO_1.out _) (fun k_ hk_ hs_ => (hk_.2) hs_)); (case side4 => exact (Kd.V_reads' HO_1.out).2.1); rintro e w22 ⟨rfl, hy0, hb, hkp⟩; refine ⟨_, rfl, ?_⟩; replace HO_1 := uA (Kd.V_mono (ok' := fun k_ => ((k_ < w.heap.size) ∨ w.heap.size ≤ k_) ∧ some k_ ≠ (.slice Ao21 x7_1.length co21 : Value).ownBlock) (Kd.V_keptB (Kd.V_drewN HO_1.out _) hkp (fun k_ hk_ hs_ => (hk_.2) hs_)) (fun k_ hk_ => ⟨hk_.1.1, hk_.1.2⟩)); replace HO_7 := uA (Kd.R_reok rfl hy0 (fun k_ e_ => HO_7.out.1 k_ e_)); replace HB := uA hb; (try clear hkp); (try clear hy0)))
        go_roundg k1
        case measure => have := HK1.out; omega
        case rel => exact ⟨(t290), (wrap64 (x8_1 - 1)), rfl, H', ⟨by have := HK1.out; omega⟩, ⟨uV HO_1.out⟩, ⟨uR HO_7.out⟩, ⟨uB HB.out⟩⟩
       ·replace c19 := Bool.eq_false_iff.mpr c19
        subst c19
        replace H := uJ uN0 H
        have H' := Aside0.mk H
        clear H
        obtain ⟨Ao23, co23, eo23⟩ := Kd.R_slice HO_7.out
        subst eo23
        go_wp2_with (first | ((with_reducible refine gate_callee (f := 66) rfl ?_); refine uG (some 33) Try.func66 #[.slice Ao23 x7_1.length co23, .int .i64 x8_1] ?_; (with_reducible refine (bpoly_one.calls _ _ x7_1 x8_1 false _ ?side1 ?side2 A18.out).mono ?_); (case side1 => exact uC (Kd.R_reads' HO_7.out).2.2); (case side2 => exact (Kd.R_reads' HO_7.out).2.1); rintro e w' ⟨rfl, ⟨nd, rfl⟩⟩; refine ⟨_, rfl, ?_⟩))
        go_roundg k1
        case measure => have := HK1.out; omega
        case rel => exact ⟨(x7_1), (wrap64 (x8_1 - 1)), rfl, H', ⟨by have := HK1.out; omega⟩, ⟨uV HO_1.out⟩, ⟨uR HO_7.out⟩, ⟨uB HB.out⟩⟩
      ·rw [if_neg c17] at H
       have c17b0 : decide (t282 ≤ x8_1) = false := decide_eq_false c17
       clear c17
       obtain ⟨t286, A24, H⟩ := uO H
       simp only [Option.some.injEq, Prod.mk.injEq] at H
       obtain ⟨rfl, rfl⟩ := H
       obtain ⟨Ao25, co25, eo25⟩ := Kd.R_slice HO_7.out
       subst eo25
       have hnm_ := Aside0.mk (norm_is (Kd.R_reads' HO_7.out).2.2.2.1 A24.out)
       go_wp2_with (first | ((with_reducible refine gate_callee (f := 64) rfl ?_); refine uG (some 41) Try.func64 #[.slice Ao25 x7_1.length co25] ?_; (with_reducible refine (normb_calls Ao25 co25 x7_1 _ (Kd.R_reads' HO_7.out).2.2 (Kd.R_reads' HO_7.out).2.1).mono ?_); rintro e w26 ⟨mz_, hmz_, rfl, hz_, hn_, rfl⟩; refine ⟨_, rfl, ?_⟩; have HZ_ := Aside0.mk (R_norm_cut HO_7.out hmz_ hz_ hn_ hnm_.out); clear hmz_ hz_ hn_))
       go_ret2
       exact ⟨_, by first | rfl | (simp [errW_none, errW_some] <;> rfl) | (simp only [← hji9]; first | rfl | (simp [errW_none, errW_some] <;> rfl)) | (simp [*, errW_none, errW_some] <;> rfl), Kd.R_mono (uR HZ_.out) (fun _ _ => trivial), uB HB.out⟩
   ·rw [if_neg c11] at H
    cases H
  ·rw [if_neg c10] at H
   cases H
def bch_Encode.f (k : Nat) (a0 : Int) (l1 : List Int) : Option (List Int × Int) := (bch_size.f a0 l1).bind fun bt291 => (if bt291.2 = 0 then ((bpoly_Generator.f k a0).bind fun bt293 => (if 0 ≤ (wrap64 (bt291.1 + 1)) then (if (wrap64 (bt291.1 + 1) : Int).toNat ≤ 281474976710656 then ((some (List.replicate (wrap64 (bt291.1 + 1) : Int).toNat 0 : List Int)).bind fun y297 => (if 0 ≤ (Int.tmod (wrap64 (13 * a0)) 8) then (if 0 ≤ (wrap64 (Int.tdiv (wrap64 (13 * a0)) 8)) then (if (wrap64 (Int.tdiv (wrap64 (13 * a0)) 8)) < (y297.length : Int) then ((bpoly_Mul.f k (y297.set ((wrap64 (Int.tdiv (wrap64 (13 * a0)) 8)) : Int).toNat (shl .u8 1 (Int.tmod (wrap64 (13 * a0)) 8))) l1).bind fun t301 => ((bpoly_Mod.f k t301 bt293.1).bind fun bt304 => (if 0 ≤ (wrap64 (bt291.1 - (bt304.1.length : Int))) then (if bt304.1.length + (wrap64 (bt291.1 - (bt304.1.length : Int)) : Int).toNat < 140737488355328 then (some ((bt304.1 ++ List.replicate (wrap64 (bt291.1 - (bt304.1.length : Int)) : Int).toNat 0), 0)) else (none)) else (none)))) else (none)) else (none)) else (none))) else (none)) else (none))) else (some (([] : List Int), bt291.2)))
theorem bch_Encode.mono : ∀ a0 a1 k, LeO (bch_Encode.f k a0 a1) (bch_Encode.f (k + 1) a0 a1) := by
 intro a0 a1 k
 unfold bch_Encode.f
 repeat' first
   | (with_reducible exact bpoly_Generator.mono _ _)
   | (with_reducible exact bpoly_Mod.mono _ _ _)
   | (with_reducible exact bpoly_Mul.mono _ _ _)
   | (with_reducible exact LeO.refl _)
   | (with_reducible exact LeO.none _)
   | (with_reducible refine LeO.ite ?_ ?_)
   | (with_reducible refine LeO.bind ?_ (fun _ => ?_))
   | exact bpoly_Generator.mono _ _
   | exact bpoly_Mod.mono _ _ _
   | exact bpoly_Mul.mono _ _ _
   | exact LeO.none _
   | refine LeO.ite ?_ ?_
   | refine LeO.bind ?_ (fun _ => ?_)
set_option maxHeartbeats 8000000 in
set_option maxRecDepth 100000 in
theorem bch_Encode.calls (k : Nat) (a0 : Int) (A1 : Option Addr) (c1 : Nat) (l1 : List Int) (r1 : List Int) (r2 : Int) (w : World) (hr1 : Kd.C (Kd.int .u8) w A1 l1.length l1) (hc1 : l1.length ≤ c1) (h : bch_Encode.f k a0 l1 = some (r1, r2)) :
  Calls Try.prog 30 #[.int .i64 a0, .slice A1 l1.length c1] w fun e w' => ∃ v0_ : Value, e = .returned (.tuple #[v0_, .int .i64 r2]) ∧ Kd.R (Kd.int .u8) 5 w' w.heap.size (fun _ => True) v0_ r1 ∧ Below w.heap.size w w' := by
 have HR1 := Aside0.mk hr1
 have HC1 := Aside0.mk hc1
 clear hr1 hc1
 have HB := Aside0.mk (Below.refl w.heap.size w)
 have H := h
 unfold bch_Encode.f at H
 clear h
 obtain ⟨⟨t291, t292⟩, A3, H⟩ := uO H
 dsimp only at H
 by_cases c4 : t292 = 0
 ·rw [if_pos c4] at H
  have c4b0 : (t292 == 0) = true := beq_iff_eq.mpr c4
  have c4b1 : (t292 != 0) = false := bne_eq_false_iff_eq.mpr c4
  clear c4
  obtain ⟨⟨t293, t296⟩, A5, H⟩ := uO H
  dsimp only at H
  obtain ⟨ji6, hji6⟩ : ∃ j_ : Int, (wrap64 (t291 + 1)) = j_ := ⟨_, rfl⟩
  first | rw [hji6] at H | simp only [hji6] at H
  (try rw [hji6] at A3)
  (try rw [hji6] at A5)
  have hji6w : (IntKind.i64.wrap (t291 + 1)) = ji6 := (i64_w _).trans hji6
  by_cases c7 : 0 ≤ (ji6)
  ·rw [if_pos c7] at H
   have c7b0 := eq_true c7
   have c7b1 : decide (0 ≤ (ji6)) = true := decide_eq_true c7
   clear c7
   by_cases c8 : (ji6 : Int).toNat ≤ 281474976710656
   ·rw [if_pos c8] at H
    have c8b0 := eq_true c8
    have c8b1 : decide ((ji6 : Int).toNat ≤ 281474976710656) = true := decide_eq_true c8
    clear c8
    rw [uY] at H
    obtain ⟨y297, Ny297, H⟩ := H
    obtain ⟨ji9, hji9⟩ : ∃ j_ : Int, (Int.tmod (wrap64 (13 * a0)) 8) = j_ := ⟨_, rfl⟩
    first | rw [hji9] at H | simp only [hji9] at H
    (try rw [hji9] at A3)
    (try rw [hji9] at A5)
    by_cases c10 : 0 ≤ (ji9)
    ·rw [if_pos c10] at H
     have c10b0 := eq_true c10
     have c10b1 : decide (0 ≤ (ji9)) = true := decide_eq_true c10
     clear c10
     obtain ⟨ji11, hji11⟩ : ∃ j_ : Int, (shl .u8 1 (ji9)) = j_ := ⟨_, rfl⟩
     first | rw [hji11] at H | simp only [hji11] at H
     (try rw [hji11] at A3)
     (try rw [hji11] at A5)
     have hji11_ : (IntKind.u8.wrap (1 * 2 ^ min (ji9).toNat 8)) = ji11 := hji11
     have hji11z : (ji9) ≤ 8 → (IntKind.u8.wrap (1 * 2 ^ (ji9).toNat)) = ji11 := shl_small hji11
     have hji11u : (IntKind.u8.wrap (2 ^ min (ji9).toNat 8)) = ji11 := by have h_ := hji11_; rw [Int.one_mul] at h_; exact h_
     have hji11v : (ji9) ≤ 8 → (IntKind.u8.wrap (2 ^ (ji9).toNat)) = ji11 := fun hle_ => by have h_ := hji11z hle_; rw [Int.one_mul] at h_; exact h_
     obtain ⟨ji12, hji12⟩ : ∃ j_ : Int, (wrap64 (Int.tdiv (wrap64 (13 * a0)) 8)) = j_ := ⟨_, rfl⟩
     first | rw [hji12] at H | simp only [hji12] at H
     (try rw [hji12] at A3)
     (try rw [hji12] at A5)
     have hji12w : (IntKind.i64.wrap (Int.tdiv (wrap64 (13 * a0)) 8)) = ji12 := (i64_w _).trans hji12
     by_cases c13 : 0 ≤ (ji12)
     ·rw [if_pos c13] at H
      have c13b0 : decide (0 ≤ (ji12)) = true := decide_eq_true c13
      clear c13
      by_cases c14 : (ji12) < (y297.length : Int)
      ·rw [if_pos c14] at H
       have c14b0 : decide ((ji12) < (y297.length : Int)) = true := decide_eq_true c14
       clear c14
       obtain ⟨y300, Ny300⟩ := uEA ((y297.set ((ji12) : Int).toNat (ji11)) : List Int)
       rw [← Ny300.out] at H
       obtain ⟨t301, A16, H⟩ := uO H
       obtain ⟨⟨t304, t305⟩, A17, H⟩ := uO H
       dsimp only at H
       obtain ⟨ji18, hji18⟩ : ∃ j_ : Int, (wrap64 (t291 - (t304.length : Int))) = j_ := ⟨_, rfl⟩
       first | rw [hji18] at H | simp only [hji18] at H
       (try rw [hji18] at A3)
       (try rw [hji18] at A5)
       (try rw [hji18] at A16)
       (try rw [hji18] at A17)
       have hji18w : (IntKind.i64.wrap (t291 - (t304.length : Int))) = ji18 := (i64_w _).trans hji18
       by_cases c19 : 0 ≤ (ji18)
       ·rw [if_pos c19] at H
        have c19b0 := eq_true c19
        have c19b1 : decide (0 ≤ (ji18)) = true := decide_eq_true c19
        clear c19
        by_cases c20 : t304.length + (ji18 : Int).toNat < 140737488355328
        ·rw [if_pos c20] at H
         have LMc20 := Aside0.mk c20
         clear c20
         obtain ⟨y308, Ny308⟩ := uEA ((t304 ++ List.replicate (ji18 : Int).toNat 0) : List Int)
         rw [← Ny308.out] at H
         simp only [Option.some.injEq, Prod.mk.injEq] at H
         obtain ⟨rfl, rfl⟩ := H
         go_enter Try.func30, Try.ntmps30
         go_wp2_with (first | ((with_reducible refine gate_callee (f := 47) rfl ?_); refine uG (some 16) Try.func47 #[.int .i64 a0, .slice A1 l1.length c1] ?_; (with_reducible refine (bch_size.calls a0 _ _ l1 t291 t292 _ ?side1 ?side2 A3.out).mono ?_); (case side1 => exact uC HR1.out); (case side2 => exact HC1.out); rintro e w' ⟨rfl, ⟨nd, rfl⟩⟩; refine ⟨_, rfl, ?_⟩) | ((with_reducible refine gate_callee (f := 48) rfl ?_); refine uG (some 24) Try.func48 #[.int .i64 a0] ?_; (with_reducible refine (bpoly_Generator.calls k a0 t293 t296 _ A5.out).mono ?_); rintro e w21 ⟨v294, rfl, ho0, hb⟩; refine ⟨_, rfl, ?_⟩; have HO295 := uA (Kd.V_lower (Kd.V_mono (ok' := fun k_ => True) ho0 (fun k_ hk_ => trivial)) (below_size (uB HB.out))); replace HB := uBb HB hb) | ((with_reducible refine gate_dst (N := 29) rfl ?_); refine Kd.R_make (Kd.int .u8) _ 5 rfl (N := 29) rfl 26 _ _ rfl ji6 rfl rfl Try.underlying26 (.int .u8 0) 1 info5 rfl (by decide) (by omega) 0 (ok := fun _ => True) (okp := fun _ => True) rfl (fun _ hk => hk) trivial (of_decide_eq_true (by first | (with_reducible assumption) | assumption)) (Nat.le_trans (Nat.mul_le_mul_right _ (of_decide_eq_true (by first | (with_reducible assumption) | assumption) : ji6.toNat ≤ 281474976710656)) (by omega)) (Below.refl _ _) (Nat.le_refl _) ?_; intro v298 w22 ho23 hb hg_ hnew_; clear hg_ hnew_; (first | rw [← Ny297.out] at ho23 | (simp only [Int.reduceToNat] at ho23; rw [← Ny297.out] at ho23)); replace HO295 := uA (Kd.V_elder' (uV HO295.out) (Kd.R_base ho23) hb); have HO299 := uA (Kd.R_lower ho23 (below_size (uB HB.out))); replace HB := uBb HB hb; clear hb ho23; have p15 : 0 ≤ ((ji12) : Int) := of_decide_eq_true (by first | (with_reducible assumption) | assumption); have q15 : ((ji12) : Int) < ((y297.length : Int) : Int) := of_decide_eq_true (by first | (with_reducible assumption) | assumption); obtain ⟨go15, co15, eo15, gb15, gl15, cl15, HG15⟩ := Kd.R_form HO299.out (by omega); (first | cases eo15 | (injection eo15 with ea_ en_ ec_; (first | subst ea_ | (injection ea_ with ea_; subst ea_)); subst ec_; clear en_)); have GB15 := Aside0.mk gb15; have GG15 := Aside0.mk HG15; clear gb15 gl15 HG15; obtain ⟨hx15_0, hf15_0⟩ := Kd.R_celln 0 HO299.out ((ji12) : Int) p15 q15; replace p15 := eq_true p15; replace q15 := eq_true q15; obtain ⟨hy24_, hz24_⟩ := Kd.R_celln 0 HO299.out ((ji12) : Int) (of_decide_eq_true (by first | (with_reducible assumption) | assumption)) (of_decide_eq_true (by first | (with_reducible assumption) | assumption)); have HP24 := Kd.R_putg HO299.out ((ji12) : Int) ji11) | ((with_reducible refine gate_store (t := 5) (p := 38) rfl ?_); refine store_event (t := 5) (p := 38) (v := ?vo_w25) (w1 := (w22.setCell ⟨go15, ((ji12) : Int).toNat, none⟩ (.int .u8 ji11))) ?hg ?ho ?hn ?hr ?_; (case ho => rfl); (case hg => rfl); (case hn => rfl); (case hr => first | (go_simp; done) | (go_simp; rfl)); intro w25 hw; have hg : w22.grownBy w25 (some go15) := (by rw [hw]; exact HP24.2); have hp_ : Kd.R (Kd.int .u8) 5 w25 w.heap.size (fun _ => True) (.slice (some ⟨go15, 0, none⟩) y297.length co15) y300 := (by rw [hw, Ny300.out]; exact HP24.1); clear HP24; replace HO295 := uA (Kd.V_afterv (v := (.slice (some ⟨go15, 0, none⟩) y297.length co15)) (v1 := (.slice (some ⟨go15, 0, none⟩) y297.length co15)) (ok := (fun _ => True)) (uV HO295.out) hg (.inl rfl)); replace HO299 := uA hp_; replace HB := uA (by rw [hw]; exact below_set (HB.out) GB15.out : Below w.heap.size w w25); clear hg hw hp_) | ((with_reducible refine gate_callee (f := 50) rfl ?_); refine goesL_ (some 42) rfl rfl Try.func50 (by kernel_rfl) rfl #[.slice (some ⟨go15, 0, none⟩) y300.length co15, .slice A1 l1.length c1] rfl (by (try simp only [List.map_toArray, List.map_cons, List.map_nil]); first | done | (rw [show y300.length = y297.length from (Kd.R_reads' HO299.out).1.symm] <;> rfl) | rfl | (simp only [List.length_drop, List.length_take]; rfl)) ?_; (with_reducible refine (bpoly_Mul.calls k _ _ y300 _ _ l1 t301 _ ?side1 ?side2 ?side3 ?side4 A16.out).mono ?_); (case side1 => exact uC (Kd.R_reads' HO299.out).2.2); (case side2 => rw [show y300.length = y297.length from (Kd.R_reads' HO299.out).1.symm]; exact (Kd.R_reads' HO299.out).2.1); (case side3 => exact uC (Kd.C_below HR1.out HB.out)); (case side4 => exact HC1.out); rintro e w26 ⟨v302, rfl, ho0, hb⟩; refine ⟨_, rfl, ?_⟩; replace HO295 := uVb HO295 hb; have HO303 := uA (Kd.V_lower (Kd.V_mono (ok' := fun k_ => some k_ ≠ (.slice (some ⟨go15, 0, none⟩) y297.length co15 : Value).ownBlock) ho0 (fun k_ hk_ => (Kd.fresh' (Kd.R_lt (uR HO299.out)) k_ hk_))) (below_size (uB HB.out))); replace HO299 := uRb HO299 hb; replace HB := uBb HB hb; obtain ⟨Ao27, co27, eo27⟩ := Kd.V_slice HO303.out; subst eo27; obtain ⟨Ao28, co28, eo28⟩ := Kd.V_slice HO295.out; subst eo28) | ((with_reducible refine gate_callee (f := 49) rfl ?_); refine uG (some 44) Try.func49 #[.slice Ao27 t301.length co27, .slice Ao28 t293.length co28] ?_; (with_reducible refine (bpoly_Mod.calls k _ _ t301 _ _ t293 t304 t305 _ ?side1 ?side2 ?side3 ?side4 A17.out).mono ?_); (case side1 => exact uC (Kd.V_reads' HO303.out).2.2); (case side2 => exact (Kd.V_reads' HO303.out).2.1); (case side3 => exact uC (Kd.V_reads' HO295.out).2.2); (case side4 => exact (Kd.V_reads' HO295.out).2.1); rintro e w29 ⟨v306, rfl, ho0, hb⟩; refine ⟨_, rfl, ?_⟩; replace HO295 := uA (Kd.V_elder' (uV HO295.out) (Kd.R_base ho0) hb); replace HO303 := uA (Kd.V_elder' (uV HO303.out) (Kd.R_base ho0) hb); have HO307 := uA (Kd.R_lower (Kd.R_new' ho0 (Kd.R_lt (uR HO299.out))) (below_size (uB HB.out))); replace HO299 := uA (Kd.R_elder' (uR HO299.out) (Kd.R_base ho0) hb); replace HB := uBb HB hb; obtain ⟨Ao30, co30, eo30⟩ := Kd.R_slice HO307.out; subst eo30) | (at_builtin; refine Kd.R_append_zeros (Kd.int .u8) (w0 := w) w.heap.size rfl (.tmp 47) (.tmp 51) 26 3 5 (.int .u8 0) 1 rfl Try.underlying26 Try.underlying3 info5 rfl (by decide) (by omega) (.slice Ao30 t304.length co30) t304 0 (ji18 : Int) (fun k_ => some k_ ≠ (.slice (some ⟨go15, 0, none⟩) y297.length co15 : Value).ownBlock) rfl rfl rfl ?aF ?aO (of_decide_eq_true (by first | (with_reducible assumption) | assumption)) ?aB ?aS ?aL ?_; (case aB => exact (uB HB.out)); (case aF => exact (fun k_ hk => Kd.fresh' (Kd.R_lt (uR HO299.out)) k_ hk)); (case aO => exact (by (with_reducible repeat (first | apply Kd.R_alloc | apply Kd.R_drewN | apply Kd.R_drew)); exact Kd.R_mono HO307.out (fun _ hk => hk.2))); (case aS => exact (below_size (uB HB.out))); (case aL => have := LMc20.out; omega); intro v309 w31 ho hb hg hat; rw [← Ny308.out] at ho; have n0_ := Aside0.mk (Kd.V_afterv (ok := (fun k_ => some k_ ≠ (.slice (some ⟨go15, 0, none⟩) y297.length co15 : Value).ownBlock)) (by (with_reducible repeat (first | apply Kd.V_alloc | apply Kd.V_drewN | apply Kd.V_drew)); exact Kd.V_mono HO295.out (fun _ hk => ⟨hk.1.2, hk.2⟩)) hg hat); have n1_ := Aside0.mk (Kd.R_after (ok := (fun _ => True)) (uR HO299.out) hg hat); have n2_ := Aside0.mk (Kd.V_afterv (ok := (fun k_ => some k_ ≠ (.slice (some ⟨go15, 0, none⟩) y297.length co15 : Value).ownBlock)) (uV HO303.out) hg hat); have n3_ := Aside0.mk (hb); have n4_ := Aside0.mk (ho); clear HO295; clear HO299; clear HO303; clear HB; clear HO307; have HO295 := n0_; have HO299 := n1_; have HO303 := n2_; have HB := n3_; have HO310 := n4_; clear n0_ n1_ n2_ n3_ n4_; clear ho hb hg hat))
         go_ret2
         exact ⟨_, by first | rfl | (simp [errW_none, errW_some] <;> rfl) | (simp only [← hji6, ← hji9, ← hji11, ← hji12, ← hji18]; first | rfl | (simp [errW_none, errW_some] <;> rfl)) | (simp [*, errW_none, errW_some] <;> rfl), by (with_reducible repeat (first | apply Kd.R_alloc | apply Kd.R_drewN | apply Kd.R_drew)); exact Kd.R_mono HO310.out (fun _ hk => trivial), uB HB.out⟩
        ·rw [if_neg c20] at H
         cases H
       ·rw [if_neg c19] at H
        cases H
      ·rw [if_neg c14] at H
       cases H
     ·rw [if_neg c13] at H
      cases H
    ·rw [if_neg c10] at H
     cases H
   ·rw [if_neg c8] at H
    cases H
  ·rw [if_neg c7] at H
   cases H
 ·rw [if_neg c4] at H
  have c4b0 : (t292 == 0) = false := beq_eq_false_iff_ne.mpr c4
  have c4b1 : (t292 != 0) = true := bne_iff_ne.mpr c4
  simp only [Option.some.injEq, Prod.mk.injEq] at H
  obtain ⟨rfl, rfl⟩ := H
  go_enter Try.func30, Try.ntmps30
  go_wp2_with (first | ((with_reducible refine gate_callee (f := 47) rfl ?_); refine uG (some 16) Try.func47 #[.int .i64 a0, .slice A1 l1.length c1] ?_; (with_reducible refine (bch_size.calls a0 _ _ l1 t291 t292 _ ?side1 ?side2 A3.out).mono ?_); (case side1 => exact uC HR1.out); (case side2 => exact HC1.out); rintro e w' ⟨rfl, ⟨nd, rfl⟩⟩; refine ⟨_, rfl, ?_⟩))
  go_ret2
  exact ⟨_, by first | rfl | (simp [errW_none, errW_some] <;> rfl) | (simp [*, errW_none, errW_some] <;> rfl), by first | exact Kd.R_nil _ _ _ _ _ | exact Kd.N_nil _ _ _ _ _ | exact Kd.V_nil _ _ _ _ _ | exact Kd.Q_nil _ _ _ _ _ | exact Kd.S_nil _ _ _ _ _, uB HB.out⟩
mutual
def ecc_Pack.j0 : Nat → List Int → Bool → Int → Int → Int → Int → Int → Option (List Int × Int)
 | 0, _, _, _, _, _, _, _ => none
 | k + 1, x1, x24, x312000, x312001, x312002, x312003, x312004 => if x24 = true then (some (([] : List Int), 1)) else (ecc_Pack.l0 k x1 ([] : List Int) x312000 x312001 x312002 x312003 x312004)
def ecc_Pack.l0 : Nat → List Int → List Int → Int → Int → Int → Int → Int → Option (List Int × Int)
 | 0, _, _, _, _, _, _, _ => none
 | k + 1, x1, x8, x312000, x312001, x312002, x312003, x312004 => if (x1.length : Int) > 0 then (if 0 ≤ x312003 then (if x312003 ≤ (x1.length : Int) then ((some (x1.take (x312003 : Int).toNat : List Int)).bind fun y314 => ((bch_Encode.f k x312004 y314).bind fun bt319 => (if x8.length + y314.length < 140737488355328 then ((some (x8 ++ y314 : List Int)).bind fun y323 => (if y323.length + bt319.1.length < 140737488355328 then (ecc_Pack.l0 k (x1.drop (x312003 : Int).toNat) (y323 ++ bt319.1) x312000 x312001 x312002 x312003 x312004) else (none))) else (none)))) else (none)) else (none)) else (if x8.length < 140737488355328 then (some ((x8 ++ [0]), 0)) else (none))
end
def ecc_Pack.f (k : Nat) (a0_0 : Int) (a0_1 : Int) (a0_2 : Int) (a0_3 : Int) (a0_4 : Int) (l1 : List Int) : Option (List Int × Int) := (ecc_Room.f a0_0 a0_1 a0_2 a0_3 a0_4).bind fun bt312 => (if bt312.2 = 0 then (ecc_Pack.j0 k l1 ((l1.length : Int) != bt312.1) a0_0 a0_1 a0_2 a0_3 a0_4) else (ecc_Pack.j0 k l1 true a0_0 a0_1 a0_2 a0_3 a0_4))
theorem ecc_Pack.mono_l : ∀ k, (∀ y0 y1 y2 y3 y4 y5 y6, LeO (ecc_Pack.j0 k y0 y1 y2 y3 y4 y5 y6) (ecc_Pack.j0 (k + 1) y0 y1 y2 y3 y4 y5 y6)) ∧ (∀ y0 y1 y2 y3 y4 y5 y6, LeO (ecc_Pack.l0 k y0 y1 y2 y3 y4 y5 y6) (ecc_Pack.l0 (k + 1) y0 y1 y2 y3 y4 y5 y6))
 | 0 => ⟨fun _ _ _ _ _ _ _ r h => by simp [ecc_Pack.j0] at h, fun _ _ _ _ _ _ _ r h => by simp [ecc_Pack.l0] at h⟩
 | k + 1 => by
  obtain ⟨ih0, ih1⟩ := ecc_Pack.mono_l k
  refine ⟨?_, ?_⟩
  ·intro y0 y1 y2 y3 y4 y5 y6
   unfold ecc_Pack.j0
   repeat' first
   | (with_reducible exact ih0 _ _ _ _ _ _ _)
   | (with_reducible exact ih1 _ _ _ _ _ _ _)
   | (with_reducible exact bch_Encode.mono _ _ _)
   | (with_reducible exact LeO.refl _)
   | (with_reducible exact LeO.none _)
   | (with_reducible refine LeO.ite ?_ ?_)
   | (with_reducible refine LeO.bind ?_ (fun _ => ?_))
   | exact ih0 _ _ _ _ _ _ _
   | exact ih1 _ _ _ _ _ _ _
   | exact bch_Encode.mono _ _ _
   | exact LeO.none _
   | refine LeO.ite ?_ ?_
   | refine LeO.bind ?_ (fun _ => ?_)
  ·intro y0 y1 y2 y3 y4 y5 y6
   unfold ecc_Pack.l0
   repeat' first
   | (with_reducible exact ih0 _ _ _ _ _ _ _)
   | (with_reducible exact ih1 _ _ _ _ _ _ _)
   | (with_reducible exact bch_Encode.mono _ _ _)
   | (with_reducible exact LeO.refl _)
   | (with_reducible exact LeO.none _)
   | (with_reducible refine LeO.ite ?_ ?_)
   | (with_reducible refine LeO.bind ?_ (fun _ => ?_))
   | exact ih0 _ _ _ _ _ _ _
   | exact ih1 _ _ _ _ _ _ _
   | exact bch_Encode.mono _ _ _
   | exact LeO.none _
   | refine LeO.ite ?_ ?_
   | refine LeO.bind ?_ (fun _ => ?_)
theorem ecc_Pack.mono : ∀ a0 a1 a2 a3 a4 a5 k, LeO (ecc_Pack.f k a0 a1 a2 a3 a4 a5) (ecc_Pack.f (k + 1) a0 a1 a2 a3 a4 a5) := by
 intro a0 a1 a2 a3 a4 a5 k
 obtain ⟨ih0, ih1⟩ := ecc_Pack.mono_l k
 unfold ecc_Pack.f
 repeat' first
   | (with_reducible exact ih0 _ _ _ _ _ _ _)
   | (with_reducible exact ih1 _ _ _ _ _ _ _)
   | (with_reducible exact bch_Encode.mono _ _ _)
   | (with_reducible exact LeO.refl _)
   | (with_reducible exact LeO.none _)
   | (with_reducible refine LeO.ite ?_ ?_)
   | (with_reducible refine LeO.bind ?_ (fun _ => ?_))
   | exact ih0 _ _ _ _ _ _ _
   | exact ih1 _ _ _ _ _ _ _
   | exact bch_Encode.mono _ _ _
   | exact LeO.none _
   | refine LeO.ite ?_ ?_
   | refine LeO.bind ?_ (fun _ => ?_)
section
variable {P : Program}
/-- A cut with a capacity, that is its end. -/
theorem ecc_Pack.cut_to3 (t e : TypeId) (kh : IntKind) {i : TypeInfo} (ht : P.underlying t = some (.slice e)) (hi : P.info? e = some i) (A : Option Addr) (n c : Nat) (j : Int) (h0 : 0 ≤ j) (hm : j ≤ n) (hc : n ≤ c) :
  ∀ W : World, (Instr.slice t (.slice A n c) none (some (.int kh j)) (some (.int kh j))).run P W = .ok (.slice A j.toNat j.toNat) W := by
 intro W
 have hel : P.elem t = e := by simp [Program.elem, ht]
 have hu : P.underlying t = some (.slice (P.elem t)) := by rw [hel]; exact ht
 have ha : (A.map fun x => x.add 0) = A := by cases A <;> simp [Addr.add]
 rw [run_slice_hm W t A n c hu kh kh j j h0 (Int.le_refl _) (by omega), hel]
 simp [sizeOf, typeInfo, hi, sliced, Result.andThen, ha]
end
set_option maxHeartbeats 8000000 in
set_option maxRecDepth 100000 in
theorem ecc_Pack.calls (k : Nat) (a0_0 : Int) (a0_1 : Int) (a0_2 : Int) (a0_3 : Int) (a0_4 : Int) (P1_ : Nat → Prop) (A1 : Option Addr) (c1 : Nat) (l1 : List Int) (r1 : List Int) (r2 : Int) (w : World) (hs1 : Kd.V (Kd.int .u8) 5 w w.heap.size (fun k_ => P1_ k_) (.slice A1 l1.length c1) l1) (h : ecc_Pack.f k a0_0 a0_1 a0_2 a0_3 a0_4 l1 = some (r1, r2)) :
  Calls Try.prog 18 #[.agg #[.int .i64 a0_0, .int .i64 a0_1, .int .i64 a0_2, .int .i64 a0_3, .int .i64 a0_4], .slice A1 l1.length c1] w fun e w' => ∃ v0_ : Value, e = .returned (.tuple #[v0_, .int .i64 r2]) ∧ Kd.R (Kd.int .u8) 5 w' w.heap.size (fun k_ => (w.heap.size ≤ k_)) v0_ r1 ∧ Below w.heap.size w w' := by
 have hu23 := Try.underlying23
 have HO1 := Aside0.mk (show Kd.V (Kd.int .u8) 5 w w.heap.size (fun k_ => (P1_ k_ ∨ w.heap.size ≤ k_)) (.slice A1 l1.length c1) l1 from Kd.V_mono hs1 (fun k_ hk => .inl hk))
 have HB := Aside0.mk (Below.refl w.heap.size w)
 have H := h
 unfold ecc_Pack.f at H
 clear h
 obtain ⟨⟨t312, t313⟩, A3, H⟩ := uO H
 dsimp only at H
 have HC4 := Aside0.mk H
 clear H
 go_enter Try.func18, Try.ntmps18
 go_upto_region 2 with (first | ((with_reducible refine gate_dst (N := 2) rfl ?_); (try (refine gate_guard (by rfl) ?_; dsimp only)); refine uX 2 #[.int .i64 a0_0, .int .i64 a0_1, .int .i64 a0_2, .int .i64 a0_3, .int .i64 a0_4] 23 ?_; intro gb311 hg w5 hbox hb; replace HO1 := uA (Kd.V_below (Kd.V_elderB (uV HO1.out) gb311 (Nat.le_of_eq hg.symm)) hb); have BK311 := uA hbox; have GW311 := uGe HB hg; have GE311 := uGe HB hg; replace HB := uBb HB hb; clear hg; obtain ⟨_, _, _, _, _, _, _, _, _, _⟩ := uZ BK311) | ((with_reducible refine gate_callee (f := 20) rfl ?_); refine uG (some 14) Try.func20 #[.agg #[.int .i64 a0_0, .int .i64 a0_1, .int .i64 a0_2, .int .i64 a0_3, .int .i64 a0_4]] ?_; (with_reducible refine (ecc_Room.calls a0_0 a0_1 a0_2 a0_3 a0_4 t312 t313 _ A3.out).mono ?_); rintro e w7 ⟨rfl, hb⟩; refine ⟨_, rfl, ?_⟩; replace HO1 := uVb HO1 hb; replace BK311 := uKb BK311 hb; replace HB := uBb HB hb))
 (try simp only [Act.put, List.setIfInBounds_toArray, List.set_cons_zero, List.set_cons_succ])
 go_cut [24] (fun v24 wc => ∃ (kq : Nat) (x24_3 : Bool), v24 = .bool x24_3 ∧ Aside0 (ecc_Pack.j0 kq l1 x24_3 a0_0 a0_1 a0_2 a0_3 a0_4 = some (r1, r2)) ∧ Aside0 (kq ≤ k) ∧ Aside0 (Kd.V (Kd.int .u8) 5 wc w.heap.size (fun k_ => (P1_ k_ ∨ w.heap.size ≤ k_) ∧ k_ ≠ gb311) (.slice A1 l1.length c1) l1) ∧ Aside0 (wc.heap[gb311]? = some (.cells #[.int .i64 a0_0, .int .i64 a0_1, .int .i64 a0_2, .int .i64 a0_3, .int .i64 a0_4] 23 (0, 0))) ∧ Aside0 (Below w.heap.size w wc))
 case first =>
  have H := HC4.out
  clear HC4
  by_cases c8 : t313 = 0
  ·rw [if_pos c8] at H
   have c8b0 : (t313 == 0) = true := beq_iff_eq.mpr c8
   have c8b1 : (t313 != 0) = false := bne_eq_false_iff_eq.mpr c8
   clear c8
   (first | rw [c8b0] | (simp only [i64_w, i32_w]; rw [c8b0]) | skip)
   have H' := Aside0.mk H
   clear H
   go_wp2
   go_meet
   case rel => exact ⟨_, (((l1.length : Int) != t312)), rfl, H', ⟨by omega⟩, ⟨uV HO1.out⟩, ⟨uK BK311.out⟩, ⟨uB HB.out⟩⟩
  ·rw [if_neg c8] at H
   have c8b0 : (t313 == 0) = false := beq_eq_false_iff_ne.mpr c8
   have c8b1 : (t313 != 0) = true := bne_iff_ne.mpr c8
   (first | rw [c8b0] | (simp only [i64_w, i32_w]; rw [c8b0]) | skip)
   have H' := Aside0.mk H
   clear H
   go_wp2
   go_meet
   case rel => exact ⟨_, (true), rfl, H', ⟨by omega⟩, ⟨uV HO1.out⟩, ⟨uK BK311.out⟩, ⟨uB HB.out⟩⟩
 case rest =>
  clear HC4
  obtain ⟨kq, x24_3, rfl, HA, HJ3, HO_1, BK311, HB⟩ := hcut
  cases kq with
  | zero => exact absurd HA.out (by simp [ecc_Pack.j0])
  | succ kj3 =>
   have H := HA.out
   clear HA
   simp only [ecc_Pack.j0] at H
   by_cases c9 : x24_3 = true
   ·subst c9
    replace H := uI rfl H
    simp only [Option.some.injEq, Prod.mk.injEq] at H
    obtain ⟨rfl, rfl⟩ := H
    go_wp2
    go_ret2
    exact ⟨_, by first | rfl | (simp [errW_none, errW_some] <;> rfl) | (simp [*, errW_none, errW_some] <;> rfl), by first | exact Kd.R_nil _ _ _ _ _ | exact Kd.N_nil _ _ _ _ _ | exact Kd.V_nil _ _ _ _ _ | exact Kd.Q_nil _ _ _ _ _ | exact Kd.S_nil _ _ _ _ _, uB HB.out⟩
   ·replace c9 := Bool.eq_false_iff.mpr c9
    subst c9
    replace H := uJ uN0 H
    have H' := Aside0.mk H
    clear H
    go_wp2
    go_loopg [1, 8] kj3 (fun kq v1 v8 w' => ∃ (x1_2 : List Int) (x8_2 : List Int), Aside0 (ecc_Pack.l0 kq x1_2 x8_2 a0_0 a0_1 a0_2 a0_3 a0_4 = some (r1, r2)) ∧ Aside0 (kq ≤ kj3) ∧ Aside0 (Kd.V (Kd.int .u8) 5 w' w.heap.size (fun k_ => (P1_ k_ ∨ w.heap.size ≤ k_) ∧ some k_ ≠ (v8 : Value).ownBlock ∧ k_ ≠ gb311) v1 x1_2) ∧ Aside0 (Kd.R (Kd.int .u8) 5 w' w.heap.size (fun k_ => (w.heap.size ≤ k_)) v8 x8_2) ∧ Aside0 (w'.heap[gb311]? = some (.cells #[.int .i64 a0_0, .int .i64 a0_1, .int .i64 a0_2, .int .i64 a0_3, .int .i64 a0_4] 23 (0, 0))) ∧ Aside0 (Below w.heap.size w w'))
    case atStart => exact ⟨(l1), (([] : List Int)), H', ⟨Nat.le_refl _⟩, ⟨by (with_reducible repeat (first | apply Kd.V_alloc | apply Kd.V_drewN | apply Kd.V_drew)); exact Kd.V_mono HO_1.out (fun _ hk => ⟨hk.1, ⟨(by simp [Value.ownBlock]), hk.2⟩⟩)⟩, ⟨by first | exact Kd.R_nil _ _ _ _ _ | exact Kd.N_nil _ _ _ _ _ | exact Kd.V_nil _ _ _ _ _ | exact Kd.Q_nil _ _ _ _ _ | exact Kd.S_nil _ _ _ _ _⟩, ⟨uK BK311.out⟩, ⟨uB HB.out⟩⟩
    case round =>
     clear H'
     obtain ⟨x1_2, x8_2, HA, HK2, HO_1, HO_8, BK311, HB⟩ := hrel
     cases gk with
     | zero => exact absurd HA.out (by simp [ecc_Pack.l0])
     | succ k2 =>
      have H := HA.out
      clear HA
      simp only [ecc_Pack.l0] at H
      by_cases c10 : (x1_2.length : Int) > 0
      ·rw [if_pos c10] at H
       have c10b0 : decide (0 < (x1_2.length : Int)) = true := decide_eq_true c10
       have c10b1 : decide (0 < x1_2.length) = true := decide_eq_true (by omega)
       clear c10
       by_cases c11 : 0 ≤ a0_3
       ·rw [if_pos c11] at H
        have c11b0 := eq_true c11
        have c11b1 : decide (0 ≤ a0_3) = true := decide_eq_true c11
        clear c11
        by_cases c12 : a0_3 ≤ (x1_2.length : Int)
        ·rw [if_pos c12] at H
         have c12b0 := eq_true c12
         have c12b1 : decide (a0_3 ≤ (x1_2.length : Int)) = true := decide_eq_true c12
         clear c12
         rw [uY] at H
         obtain ⟨y314, Ny314, H⟩ := H
         obtain ⟨⟨t319, t320⟩, A13, H⟩ := uO H
         dsimp only at H
         by_cases c14 : x8_2.length + y314.length < 140737488355328
         ·rw [if_pos c14] at H
          have LMc14 := Aside0.mk c14
          clear c14
          rw [uY] at H
          obtain ⟨y323, Ny323, H⟩ := H
          by_cases c15 : y323.length + t319.length < 140737488355328
          ·rw [if_pos c15] at H
           have LMc15 := Aside0.mk c15
           clear c15
           obtain ⟨y326, Ny326⟩ := uEA ((y323 ++ t319) : List Int)
           rw [← Ny326.out] at H
           have c16b0 := eq_true (of_decide_eq_true (by first | (with_reducible assumption) | assumption) : 0 ≤ a0_3)
           have c17b0 := eq_true (of_decide_eq_true (by first | (with_reducible assumption) | assumption) : a0_3 ≤ (x1_2.length : Int))
           obtain ⟨y329, Ny329⟩ := uEA ((x1_2.drop (a0_3 : Int).toNat) : List Int)
           rw [← Ny329.out] at H
           have H' := Aside0.mk H
           clear H
           obtain ⟨Ao18, co18, eo18⟩ := Kd.V_slice HO_1.out
           subst eo18
           obtain ⟨_, _, _, _, _, _, _, _, _, _⟩ := uZ BK311
           have q20 : (a0_3 : Int) ≤ ((x1_2.length : Int) : Int) := of_decide_eq_true (by first | (with_reducible assumption) | assumption)
           obtain ⟨i020, hi020, _, hsz20, _⟩ := info_parts info5
           have hroom20 : x1_2.length ≤ co18 := (Kd.V_reads' HO_1.out).2.1
           have hC20 : Kd.F (Kd.int .u8) _ _ Ao18 x1_2.length x1_2 := (Kd.V_at (base := w.heap.size) HO_1.out).2.2
           have hcut20 := ecc_Pack.cut_to3 (P := Try.prog) 26 5 .i64 Try.underlying26 hi020 Ao18 x1_2.length co18 a0_3 (of_decide_eq_true (by first | (with_reducible assumption) | assumption)) q20 hroom20
           have hr20 := Kd.F_take (m := (a0_3 : Int).toNat) hC20 (by omega)
           have hy20 : y314.length = (a0_3 : Int).toNat := (by rw [Ny314.out, List.length_take]; omega)
           rw [← Ny314.out] at hr20
           rw [← hy20] at hcut20
           have HO318 := Aside0.mk (show Kd.V (Kd.int .u8) 5 _ w.heap.size _ (.slice Ao18 y314.length y314.length) y314 from Kd.V_mk (by omega) hr20)
           have HC318 := Aside0.mk (show y314.length ≤ y314.length from by omega)
           clear hr20 hC20 hroom20 hi020 hsz20
           have KY20 := Aside0.mk hy20
           clear hy20
           replace q20 := eq_true q20
           go_wp2_with (first | ((with_reducible refine gate_callee (f := 30) rfl ?_); refine uG (some 42) Try.func30 #[.int .i64 a0_4, .slice Ao18 y314.length y314.length] ?_; (with_reducible refine (bch_Encode.calls k2 a0_4 _ _ y314 t319 t320 _ ?side1 ?side2 A13.out).mono ?_); (case side1 => exact uC (Kd.V_reads' HO318.out).2.2); (case side2 => exact (Kd.V_reads' HO318.out).2.1); rintro e w21 ⟨v321, rfl, ho0, hb⟩; refine ⟨_, rfl, ?_⟩; replace HO_1 := uA (Kd.V_elder' (uV HO_1.out) (Kd.R_base ho0) hb); replace HO318 := uA (Kd.V_elder' (uV HO318.out) (Kd.R_base ho0) hb); have HO322 := uA (Kd.R_lower (Kd.R_new' (Kd.R_newM (M := fun k_ => (w.heap.size ≤ k_)) ho0 (below_size (uB HB.out)) (fun k_ h_ => h_)) (Kd.R_lt (uR HO_8.out))) (below_size (uB HB.out))); replace HO_8 := uA (Kd.R_elder' (uR HO_8.out) (Kd.R_base ho0) hb); replace BK311 := uKb BK311 hb; replace HB := uBb HB hb) | ((with_reducible refine gate_builtin (b := .append) (xs := #[.tmp 45, .tmp 46]) rfl ?_); (try (refine gate_guard (by rfl) ?_; dsimp only)); at_builtin; refine Kd.R_append_rows (Kd.int .u8) (w0 := w) w.heap.size rfl (.tmp 45) (.tmp 46) 26 5 (.int .u8 0) 1 rfl Try.underlying26 info5 rfl (by decide) (by omega) u8 x8_2 y314 _ _ _ (fun k_ => (w.heap.size ≤ k_) ∧ some k_ ≠ (v321 : Value).ownBlock) (fun _ => False) rfl rfl ?aO ?aR (fun _ _ h => h) (fun _ h => h.elim) ?aF ?aB ?aS ?aL ?_; (case aR => exact uC (Kd.V_reads' HO318.out).2.2); (case aB => exact (uB HB.out)); (case aF => exact (fun k_ hk => ⟨(Nat.le_trans (below_size (uB HB.out)) hk), Kd.fresh' (Kd.R_lt (uR HO322.out)) k_ hk⟩)); (case aO => exact (uR HO_8.out)); (case aS => exact (below_size (uB HB.out))); (case aL => have := LMc14.out; omega); intro v324 w22 ho hb hg hat; rw [← Ny323.out] at ho; have n0_ := Aside0.mk (Kd.V_afterv (ok := (fun k_ => (P1_ k_ ∨ w.heap.size ≤ k_) ∧ some k_ ≠ (v321 : Value).ownBlock ∧ k_ ≠ gb311)) (by (with_reducible repeat (first | apply Kd.V_alloc | apply Kd.V_drewN | apply Kd.V_drew)); exact Kd.V_mono HO_1.out (fun _ hk => ⟨⟨hk.1.1, ⟨hk.2, hk.1.2.2⟩⟩, hk.1.2.1⟩)) hg hat); have n1_ := Aside0.mk (blk_grown (g := gb311) (o := .cells #[.int .i64 a0_0, .int .i64 a0_1, .int .i64 a0_2, .int .i64 a0_3, .int .i64 a0_4] 23 (0, 0)) (uK BK311.out) hg (Kd.R_ne HO_8.out BK311.out (by decide))); have n2_ := Aside0.mk (Kd.V_afterv (ok := (fun k_ => (P1_ k_ ∨ w.heap.size ≤ k_) ∧ some k_ ≠ (v321 : Value).ownBlock ∧ k_ ≠ gb311)) (by (with_reducible repeat (first | apply Kd.V_alloc | apply Kd.V_drewN | apply Kd.V_drew)); exact Kd.V_mono HO318.out (fun _ hk => ⟨⟨hk.1.1, ⟨hk.2, hk.1.2.2⟩⟩, hk.1.2.1⟩)) hg hat); have n3_ := Aside0.mk (Kd.R_after (ok := (fun k_ => (w.heap.size ≤ k_))) (by (with_reducible repeat (first | apply Kd.R_alloc | apply Kd.R_drewN | apply Kd.R_drew)); exact Kd.R_mono HO322.out (fun _ hk => ⟨hk.1.1, hk.2⟩)) hg hat); have n4_ := Aside0.mk (hb); have n5_ := Aside0.mk (ho); clear HO_1; clear BK311; clear HO318; clear HO322; clear HB; clear HO_8; have HO_1 := n0_; have BK311 := n1_; have HO318 := n2_; have HO322 := n3_; have HB := n4_; have HO325 := n5_; clear n0_ n1_ n2_ n3_ n4_ n5_; clear ho hb hg hat; obtain ⟨Ao24, co24, eo24⟩ := Kd.R_slice HO322.out; subst eo24) | ((with_reducible refine gate_builtin (b := .append) (xs := #[.tmp 47, .tmp 48]) rfl ?_); (try (refine gate_guard (by rfl) ?_; dsimp only)); at_builtin; refine Kd.R_append_rows (Kd.int .u8) (w0 := w) w.heap.size rfl (.tmp 47) (.tmp 48) 26 5 (.int .u8 0) 1 rfl Try.underlying26 info5 rfl (by decide) (by omega) v324 y323 t319 _ _ _ (fun k_ => (w.heap.size ≤ k_) ∧ some k_ ≠ (.slice Ao24 t319.length co24 : Value).ownBlock) (fun _ => False) rfl rfl ?aO ?aR (fun _ _ h => h) (fun _ h => h.elim) ?aF ?aB ?aS ?aL ?_; (case aR => exact uC (Kd.R_reads' HO322.out).2.2); (case aB => exact (uB HB.out)); (case aF => exact (fun k_ hk => ⟨(Nat.le_trans (below_size (uB HB.out)) hk), Kd.fresh' (Kd.R_lt (uR HO322.out)) k_ hk⟩)); (case aO => exact (uR HO325.out)); (case aS => exact (below_size (uB HB.out))); (case aL => have := LMc15.out; omega); intro v327 w23 ho hb hg hat; rw [← Ny326.out] at ho; have n0_ := Aside0.mk (Kd.V_afterv (ok := (fun k_ => (P1_ k_ ∨ w.heap.size ≤ k_) ∧ some k_ ≠ (.slice Ao24 t319.length co24 : Value).ownBlock ∧ k_ ≠ gb311)) (uV HO_1.out) hg hat); have n1_ := Aside0.mk (blk_grown (g := gb311) (o := .cells #[.int .i64 a0_0, .int .i64 a0_1, .int .i64 a0_2, .int .i64 a0_3, .int .i64 a0_4] 23 (0, 0)) (uK BK311.out) hg (Kd.R_ne HO325.out BK311.out (by decide))); have n2_ := Aside0.mk (Kd.V_afterv (ok := (fun k_ => (P1_ k_ ∨ w.heap.size ≤ k_) ∧ some k_ ≠ (.slice Ao24 t319.length co24 : Value).ownBlock ∧ k_ ≠ gb311)) (uV HO318.out) hg hat); have n3_ := Aside0.mk (Kd.R_after (ok := (fun k_ => (w.heap.size ≤ k_))) (uR HO322.out) hg hat); have n4_ := Aside0.mk (hb); have n5_ := Aside0.mk (ho); clear HO_1; clear BK311; clear HO318; clear HO322; clear HB; clear HO325; have HO_1 := n0_; have BK311 := n1_; have HO318 := n2_; have HO322 := n3_; have HB := n4_; have HO328 := n5_; clear n0_ n1_ n2_ n3_ n4_ n5_; clear ho hb hg hat; obtain ⟨_, _, _, _, _, _, _, _, _, _⟩ := uZ BK311; have q26 : (a0_3 : Int) ≤ ((x1_2.length : Int) : Int) := of_decide_eq_true (by first | (with_reducible assumption) | assumption); obtain ⟨i026, hi026, _, hsz26, _⟩ := info_parts info5; have hroom26 : x1_2.length ≤ co18 := (Kd.V_reads' HO_1.out).2.1; have hC26 : Kd.F (Kd.int .u8) _ _ Ao18 x1_2.length x1_2 := (Kd.V_at (base := w.heap.size) HO_1.out).2.2; have q026 : (0 : Int) ≤ (a0_3 : Int) := of_decide_eq_true (by first | (with_reducible assumption) | assumption); have hcut26 := cut_from (P := Try.prog) 26 5 .i64 Try.underlying26 hi026 1 hsz26 Ao18 x1_2.length co18 a0_3 q026 q26; have hr26 := Kd.F_cut (m := (a0_3 : Int).toNat) (c := co18) hC26 (by omega) hroom26; obtain ⟨A26, hA26⟩ : ∃ A1, A1 = (if co18 = (a0_3 : Int).toNat then Ao18 else (Ao18 : Option Addr).map (·.add ((a0_3 : Int).toNat * 1))) := ⟨_, rfl⟩; obtain ⟨c26, hc26⟩ : ∃ c1, c1 = co18 - (a0_3 : Int).toNat := ⟨_, rfl⟩; have hy26 : y329.length = x1_2.length - (a0_3 : Int).toNat := (by rw [Ny329.out, List.length_drop] <;> omega); rw [show (x1_2).drop (a0_3 : Int).toNat = y329 from Ny329.out.symm] at hr26; replace hr26 : Kd.F (Kd.int .u8) _ _ A26 y329.length y329 := (by rw [hA26]; exact hr26); rw [← hy26, ← hA26, ← hc26] at hcut26; have HO333 := Aside0.mk (show Kd.V (Kd.int .u8) 5 _ w.heap.size _ (.slice A26 y329.length c26) y329 from Kd.V_mk (by rw [hy26, hc26]; exact Nat.sub_le_sub_right hroom26 _) hr26); have HC333 := Aside0.mk (show y329.length ≤ c26 from by rw [hy26, hc26]; exact Nat.sub_le_sub_right hroom26 _); clear hr26 hC26 hroom26 hi026 hsz26 hc26; have KY26 := Aside0.mk hy26; have KA26 := Aside0.mk hA26; clear hy26 hA26; replace q26 := eq_true q26))
           go_roundg k2
           case measure => have := HJ3.out; have := HK2.out; omega
           case rel => exact ⟨(y329), (y326), H', ⟨by have := HJ3.out; have := HK2.out; omega⟩, ⟨by (with_reducible repeat (first | apply Kd.V_alloc | apply Kd.V_drewN | apply Kd.V_drew)); exact Kd.V_mono HO333.out (fun _ hk => ⟨hk.1.1, ⟨hk.2, hk.1.2.2⟩⟩)⟩, ⟨by (with_reducible repeat (first | apply Kd.R_alloc | apply Kd.R_drewN | apply Kd.R_drew)); exact Kd.R_mono HO328.out (fun _ hk => hk.1)⟩, ⟨uK BK311.out⟩, ⟨uB HB.out⟩⟩
          ·rw [if_neg c15] at H
           cases H
         ·rw [if_neg c14] at H
          cases H
        ·rw [if_neg c12] at H
         cases H
       ·rw [if_neg c11] at H
        cases H
      ·rw [if_neg c10] at H
       have c10b0 : decide (0 < (x1_2.length : Int)) = false := decide_eq_false c10
       have c10b1 : decide (0 < x1_2.length) = false := decide_eq_false (by omega)
       clear c10
       by_cases c27 : x8_2.length < 140737488355328
       ·rw [if_pos c27] at H
        have LMc27 := Aside0.mk c27
        clear c27
        obtain ⟨y334, Ny334⟩ := uEA ((x8_2 ++ [0]) : List Int)
        rw [← Ny334.out] at H
        simp only [Option.some.injEq, Prod.mk.injEq] at H
        obtain ⟨rfl, rfl⟩ := H
        obtain ⟨Ao28, co28, eo28⟩ := Kd.V_slice HO_1.out
        subst eo28
        go_wp2_with (first | ((with_reducible refine gate_builtin (b := .append) (xs := #[.tmp 50, .tmp 51]) rfl ?_); (try (refine gate_guard (by rfl) ?_; dsimp only)); at_builtin; refine Kd.R_append (Kd.int .u8) (w0 := w) w.heap.size rfl (.tmp 50) (.tmp 51) 26 5 (.int .u8 0) 1 rfl Try.underlying26 info5 rfl (by decide) (by omega) u8 x8_2 0 [.int .u8 0] (fun k_ => (w.heap.size ≤ k_)) (fun _ => False) rfl rfl ?aP (fun _ hk => hk.elim) ?aF ?aO ?aB ?aS ?aL ?_; (case aP => exact rfl); (case aB => exact (uB HB.out)); (case aF => exact (fun k_ hk => (Nat.le_trans (below_size (uB HB.out)) hk))); (case aO => exact (uR HO_8.out)); (case aS => exact (below_size (uB HB.out))); (case aL => have := LMc27.out; omega); intro v335 w29 ho hb hg hat; rw [← Ny334.out] at ho; have n0_ := Aside0.mk (Kd.V_afterv (ok := (fun k_ => (P1_ k_ ∨ w.heap.size ≤ k_) ∧ k_ ≠ gb311)) (by (with_reducible repeat (first | apply Kd.V_alloc | apply Kd.V_drewN | apply Kd.V_drew)); exact Kd.V_mono HO_1.out (fun _ hk => ⟨⟨hk.1, hk.2.2⟩, hk.2.1⟩)) hg hat); have n1_ := Aside0.mk (blk_grown (g := gb311) (o := .cells #[.int .i64 a0_0, .int .i64 a0_1, .int .i64 a0_2, .int .i64 a0_3, .int .i64 a0_4] 23 (0, 0)) (uK BK311.out) hg (Kd.R_ne HO_8.out BK311.out (by decide))); have n2_ := Aside0.mk (hb); have n3_ := Aside0.mk (ho); clear HO_1; clear BK311; clear HB; clear HO_8; have HO_1 := n0_; have BK311 := n1_; have HB := n2_; have HO336 := n3_; clear n0_ n1_ n2_ n3_; clear ho hb hg hat))
        go_ret2
        exact ⟨_, by first | rfl | (simp [errW_none, errW_some] <;> rfl) | (simp [*, errW_none, errW_some] <;> rfl), by (with_reducible repeat (first | apply Kd.R_alloc | apply Kd.R_drewN | apply Kd.R_drew)); exact HO336.out, uB HB.out⟩
       ·rw [if_neg c27] at H
        cases H
def casematelaw06_tiny.f  : Option (Int × Int × Int × Int × Int) := some (1, 2, 1, 16, 1)
set_option maxHeartbeats 8000000 in
set_option maxRecDepth 100000 in
theorem casematelaw06_tiny.calls  (r1 : Int) (r2 : Int) (r3 : Int) (r4 : Int) (r5 : Int) (w : World) (h : casematelaw06_tiny.f  = some (r1, r2, r3, r4, r5)) :
  Calls Try.prog 29 #[] w fun e w' => e = .returned (.agg #[.int .i64 r1, .int .i64 r2, .int .i64 r3, .int .i64 r4, .int .i64 r5]) ∧ Below w.heap.size w w' := by
 have hu23 := Try.underlying23
 have HB := Aside0.mk (Below.refl w.heap.size w)
 have H : (some (1, 2, 1, 16, 1)) = some (r1, r2, r3, r4, r5) := h
 clear h
 simp only [Option.some.injEq, Prod.mk.injEq] at H
 obtain ⟨rfl, rfl, rfl, rfl, rfl⟩ := H
 go_enter Try.func29, Try.ntmps29
 go_wp2_with (first | ((with_reducible refine gate_dst (N := 0) rfl ?_); refine uX 0 #[.int .i64 0, .int .i64 0, .int .i64 0, .int .i64 0, .int .i64 0] 23 ?_; intro gb337 hg w1 hbox hb; have BK337 := uA hbox; have GW337 := uGe HB hg; have GE337 := uGe HB hg; replace HB := uBb HB hb; clear hg; obtain ⟨_, _, _, _, _, _, _, _, _, _⟩ := uZ BK337))
 refine bodyPost_ret (results_cell_row rfl _ _ gb337 23 #[.int .i64 1, .int .i64 2, .int .i64 1, .int .i64 16, .int .i64 1] (0, 0) _ rfl (by (with_reducible repeat (first | refine blk_drewN ?_ _ | refine blk_drew ?_ | refine blk_alloc ?_ _)); refine blk_put (cs := #[.int .i64 1, .int .i64 2, .int .i64 1, .int .i64 16, .int .i64 0]) ?_ 4 _ rfl; (with_reducible repeat (first | refine blk_drewN ?_ _ | refine blk_drew ?_ | refine blk_alloc ?_ _)); refine blk_put (cs := #[.int .i64 1, .int .i64 2, .int .i64 1, .int .i64 0, .int .i64 0]) ?_ 3 _ rfl; (with_reducible repeat (first | refine blk_drewN ?_ _ | refine blk_drew ?_ | refine blk_alloc ?_ _)); refine blk_put (cs := #[.int .i64 1, .int .i64 2, .int .i64 0, .int .i64 0, .int .i64 0]) ?_ 2 _ rfl; (with_reducible repeat (first | refine blk_drewN ?_ _ | refine blk_drew ?_ | refine blk_alloc ?_ _)); refine blk_put (cs := #[.int .i64 1, .int .i64 0, .int .i64 0, .int .i64 0, .int .i64 0]) ?_ 1 _ rfl; (with_reducible repeat (first | refine blk_drewN ?_ _ | refine blk_drew ?_ | refine blk_alloc ?_ _)); refine blk_put (cs := #[.int .i64 0, .int .i64 0, .int .i64 0, .int .i64 0, .int .i64 0]) ?_ 0 _ rfl; (with_reducible repeat (first | refine blk_drewN ?_ _ | refine blk_drew ?_ | refine blk_alloc ?_ _)); exact BK337.out) Try.underlying23 rfl (by kernel_rfl)) rfl ?_
 exact ⟨by first | rfl | (simp [errW_none, errW_some] <;> rfl) | (simp [*, errW_none, errW_some] <;> rfl), by repeat (first | (with_reducible first | exact HB.out | apply below_alloc | apply pw_below_drewN | apply below_drew1 | refine below_set ?_ GE337.out) | exact HB.out)⟩
def casematelaw06_awake.l0 : Nat → List Int → Int → Option (Bool)
 | 0, _, _ => none
 | k + 1, x1, x2 => if x2 < 19 then (if 0 ≤ x2 then (if x2 < (x1.length : Int) then (casematelaw06_awake.l0 k (x1.set (x2 : Int).toNat 255) (wrap64 (x2 + 1))) else (none)) else (none)) else ((casematelaw06_tiny.f).bind fun bt342 => ((ecc_Raw.f bt342.1 bt342.2.1 bt342.2.2.1 bt342.2.2.2.1 bt342.2.2.2.2).bind fun bt347 => ((casematelaw06_tiny.f).bind fun bt349 => ((ecc_Unpack.f k bt349.1 bt349.2.1 bt349.2.2.1 bt349.2.2.2.1 bt349.2.2.2.2 x1).bind fun bt354 => ((casematelaw06_tiny.f).bind fun bt358 => (if 16 ≤ 281474976710656 then ((ecc_Pack.f k bt358.1 bt358.2.1 bt358.2.2.1 bt358.2.2.2.1 bt358.2.2.2.2 (List.replicate 16 0)).bind fun bt366 => (if (bt366.1.length : Int) = 19 then (if 3 < (bt366.1.length : Int) then ((casematelaw06_tiny.f).bind fun bt371 => ((ecc_Read.f k bt371.1 bt371.2.1 bt371.2.2.1 bt371.2.2.2.1 bt371.2.2.2.2 (bt366.1.set (3 : Int).toNat 4)).bind fun bt376 => (if bt347.1 = 19 then (if bt347.2 = 0 then (if bt354.2 = 61 then (if bt366.2 = 0 then (if (strOfNums bt376.1).toList = (strOfNums (List.replicate 16 0)).toList then (if bt376.2.1 = 1 then (some (bt376.2.2 == 0)) else (some false)) else (some false)) else (some false)) else (some false)) else (some false)) else (some false)))) else (none)) else (some false))) else (none)))))))
def casematelaw06_awake.f (k : Nat)  : Option (Bool) := if 19 ≤ 281474976710656 then (casematelaw06_awake.l0 k (List.replicate 19 0) 0) else (none)
theorem casematelaw06_awake.mono_l : ∀ k, (∀ y0 y1, LeO (casematelaw06_awake.l0 k y0 y1) (casematelaw06_awake.l0 (k + 1) y0 y1))
 | 0 => fun _ _ r h => by simp [casematelaw06_awake.l0] at h
 | k + 1 => by
  have ih0 := casematelaw06_awake.mono_l k
  ·intro y0 y1
   unfold casematelaw06_awake.l0
   repeat' first
   | (with_reducible exact ih0 _ _)
   | (with_reducible exact ecc_Pack.mono _ _ _ _ _ _ _)
   | (with_reducible exact ecc_Read.mono _ _ _ _ _ _ _)
   | (with_reducible exact ecc_Unpack.mono _ _ _ _ _ _ _)
   | (with_reducible exact LeO.refl _)
   | (with_reducible exact LeO.none _)
   | (with_reducible refine LeO.ite ?_ ?_)
   | (with_reducible refine LeO.bind ?_ (fun _ => ?_))
   | exact ih0 _ _
   | exact ecc_Pack.mono _ _ _ _ _ _ _
   | exact ecc_Read.mono _ _ _ _ _ _ _
   | exact ecc_Unpack.mono _ _ _ _ _ _ _
   | exact LeO.none _
   | refine LeO.ite ?_ ?_
   | refine LeO.bind ?_ (fun _ => ?_)
theorem casematelaw06_awake.mono : ∀ k, LeO (casematelaw06_awake.f k ) (casematelaw06_awake.f (k + 1) ) := by
 intro  k
 have ih0 := casematelaw06_awake.mono_l k
 unfold casematelaw06_awake.f
 repeat' first
   | (with_reducible exact ih0 _ _)
   | (with_reducible exact ecc_Pack.mono _ _ _ _ _ _ _)
   | (with_reducible exact ecc_Read.mono _ _ _ _ _ _ _)
   | (with_reducible exact ecc_Unpack.mono _ _ _ _ _ _ _)
   | (with_reducible exact LeO.refl _)
   | (with_reducible exact LeO.none _)
   | (with_reducible refine LeO.ite ?_ ?_)
   | (with_reducible refine LeO.bind ?_ (fun _ => ?_))
   | exact ih0 _ _
   | exact ecc_Pack.mono _ _ _ _ _ _ _
   | exact ecc_Read.mono _ _ _ _ _ _ _
   | exact ecc_Unpack.mono _ _ _ _ _ _ _
   | exact LeO.none _
   | refine LeO.ite ?_ ?_
   | refine LeO.bind ?_ (fun _ => ?_)
def casematelaw06_awake.T8 : Bool × List (List Nat × List Nat) := (true, [([], []), ([], []), ([0, 1, 0], [0, 1]), ([2], [2]), ([3], [3]), ([3], [3]), ([4, 2, 0, 1, 2, 3, 4], [4]), ([5, 6, 0, 1, 2, 3, 4, 5, 6], [5])])
def casematelaw06_awake.B8 : List Nat := [0, 0, 3, 7, 15, 15, 31, 127]
theorem casematelaw06_awake.tab8 : rtab .any (opsOf Try.f16 8) = casematelaw06_awake.T8 := by kernel_rfl
theorem casematelaw06_awake.bits8 : waitsOk casematelaw06_awake.T8.2 casematelaw06_awake.B8 = true := by kernel_rfl
def casematelaw06_awake.T13 : Bool × List (List Nat × List Nat) := (true, [([], []), ([0], [0]), ([1], [1]), ([2], [2]), ([3, 2], [2, 3]), ([2, 4], [2, 4]), ([5, 2], [5]), ([6], [6]), ([7, 6], [6, 7]), ([6, 8], [6, 8]), ([9, 6], [9]), ([10], [10]), ([11, 10], [10, 11]), ([10, 12], [10, 12]), ([13, 10], [13]), ([14], [14]), ([15, 14], [14, 15]), ([14], [14]), ([17, 14], [14, 17]), ([16, 18, 14], [14, 16, 18]), ([14, 19], [14, 19]), ([20, 14], [20]), ([21], [21]), ([22, 21], [21, 22]), ([21, 23], [21, 23]), ([24, 21], [24]), ([25], [25]), ([26, 25], [25, 26]), ([25, 27], [25, 27]), ([28, 25, 0, 1, 2, 3, 4, 5, 6, 7, 8, 9, 10, 11, 12, 13, 14, 15, 16, 17, 18, 19, 20, 21, 22, 23, 24, 25, 26, 27, 28], [28])])
def casematelaw06_awake.B13 : List Nat := [0, 1, 3, 7, 15, 31, 63, 127, 255, 511, 1023, 2047, 4095, 8191, 16383, 32767, 65535, 32767, 163839, 524287, 1048575, 2097151, 4194303, 8388607, 16777215, 33554431, 67108863, 134217727, 268435455, 536870911]
theorem casematelaw06_awake.tab13 : rtab .any (opsOf Try.f16 13) = casematelaw06_awake.T13 := by kernel_rfl
theorem casematelaw06_awake.bits13 : waitsOk casematelaw06_awake.T13.2 casematelaw06_awake.B13 = true := by kernel_rfl
theorem casematelaw06_awake.yes (k : Nat) (r : Bool) (h : casematelaw06_awake.f k = some r) : r = true := by
 have e : casematelaw06_awake.f 400 = some true := by decide +kernel
 rcases Nat.le_total k 400 with hk | hk
 ·exact Option.some.inj ((at_rounds (g := casematelaw06_awake.f) casematelaw06_awake.mono hk h).symm.trans e)
 ·exact Option.some.inj (h.symm.trans (at_rounds (g := casematelaw06_awake.f) casematelaw06_awake.mono hk e))
set_option maxHeartbeats 8000000 in
set_option maxRecDepth 100000 in
theorem casematelaw06_awake.calls (k : Nat)  (r : Bool) (w : World) (h : casematelaw06_awake.f k  = some r) :
  Calls Try.prog 16 #[] w fun e w' => e = .returned (.bool r) ∧ Below w.heap.size w w' := by
 have HB := Aside0.mk (Below.refl w.heap.size w)
 have hr_ := Aside0.mk (casematelaw06_awake.yes k r h)
 have H := h
 unfold casematelaw06_awake.f at H
 clear h
 by_cases c1 : 19 ≤ 281474976710656
 ·rw [if_pos c1] at H
  have c1b0 := eq_true c1
  have c1b1 : decide (19 ≤ 281474976710656) = true := decide_eq_true c1
  clear c1
  obtain ⟨y338, Ny338⟩ := uEA ((List.replicate 19 0) : List Int)
  rw [← Ny338.out] at H
  have H' := Aside0.mk H
  clear H
  go_enter Try.func16, Try.ntmps16
  go_wp2_with (first | ((with_reducible refine gate_dst (N := 12) rfl ?_); (try (refine gate_guard (by rfl) ?_; dsimp only)); refine Kd.R_make (Kd.int .u8) _ 5 rfl (N := 12) rfl 26 _ _ rfl 19 rfl rfl Try.underlying26 (.int .u8 0) 1 info5 rfl (by decide) (by omega) 0 (ok := fun _ => True) (okp := fun _ => True) rfl (fun _ hk => hk) trivial (by omega) (by omega) (Below.refl _ _) (Nat.le_refl _) ?_; intro v339 w2 ho3 hb hg_ hnew_; clear hg_ hnew_; (first | rw [← Ny338.out] at ho3 | (simp only [Int.reduceToNat] at ho3; rw [← Ny338.out] at ho3)); have HO340 := uA (Kd.R_lower ho3 (below_size (uB HB.out))); replace HB := uBb HB hb; clear hb ho3))
  go_loopg [2] k (fun kq v2 w' => ∃ (x1_1 : List Int) (x2_1 : Int), v2 = .int .i64 x2_1 ∧ Aside0 (casematelaw06_awake.l0 kq x1_1 x2_1 = some r) ∧ Aside0 (kq ≤ k) ∧ Aside0 (Kd.R (Kd.int .u8) 5 w' w.heap.size (fun _ => True) v339 x1_1) ∧ Aside0 (Below w.heap.size w w'))
  case atStart => exact ⟨(y338), (0), rfl, H', ⟨Nat.le_refl _⟩, ⟨uR HO340.out⟩, ⟨uB HB.out⟩⟩
  case round =>
   clear H'
   obtain ⟨x1_1, x2_1, rfl, HA, HK1, HO_1, HB⟩ := hrel
   cases gk with
   | zero => exact absurd HA.out (by simp [casematelaw06_awake.l0])
   | succ k1 =>
    have H := HA.out
    clear HA
    simp only [casematelaw06_awake.l0] at H
    by_cases c4 : x2_1 < 19
    ·rw [if_pos c4] at H
     have c4b0 : decide (x2_1 < 19) = true := decide_eq_true c4
     clear c4
     by_cases c5 : 0 ≤ x2_1
     ·rw [if_pos c5] at H
      have c5b0 : decide (0 ≤ x2_1) = true := decide_eq_true c5
      clear c5
      by_cases c6 : x2_1 < (x1_1.length : Int)
      ·rw [if_pos c6] at H
       have c6b0 : decide (x2_1 < (x1_1.length : Int)) = true := decide_eq_true c6
       clear c6
       obtain ⟨y341, Ny341⟩ := uEA ((x1_1.set (x2_1 : Int).toNat 255) : List Int)
       rw [← Ny341.out] at H
       have H' := Aside0.mk H
       clear H
       have p7 : 0 ≤ (x2_1 : Int) := of_decide_eq_true (by first | (with_reducible assumption) | assumption)
       have q7 : (x2_1 : Int) < ((x1_1.length : Int) : Int) := of_decide_eq_true (by first | (with_reducible assumption) | assumption)
       obtain ⟨go7, co7, eo7, gb7, gl7, cl7, HG7⟩ := Kd.R_form HO_1.out (by omega)
       (first | cases eo7 | (injection eo7 with ea_ en_ ec_; (first | subst ea_ | (injection ea_ with ea_; subst ea_)); subst ec_; clear en_))
       have GB7 := Aside0.mk gb7
       have GG7 := Aside0.mk HG7
       clear gb7 gl7 HG7
       obtain ⟨hx7_0, hf7_0⟩ := Kd.R_celln 0 HO_1.out (x2_1 : Int) p7 q7
       replace p7 := eq_true p7
       replace q7 := eq_true q7
       have HP8 := Kd.R_putg HO_1.out (x2_1 : Int) 255
       go_wp2_with (first | ((with_reducible refine gate_store (t := 5) (p := 19) rfl ?_); refine store_event (t := 5) (p := 19) (v := ?vo_w9) (w1 := (wr.setCell ⟨go7, (x2_1 : Int).toNat, none⟩ (.int .u8 255))) ?hg ?ho ?hn ?hr ?_; (case ho => rfl); (case hg => rfl); (case hn => rfl); (case hr => first | (go_simp; done) | (go_simp; rfl)); intro w9 hw; have hg : wr.grownBy w9 (some go7) := (by rw [hw]; exact HP8.2); have hp_ : Kd.R (Kd.int .u8) 5 w9 w.heap.size (fun _ => True) (.slice (some ⟨go7, 0, none⟩) x1_1.length co7) y341 := (by rw [hw, Ny341.out]; exact HP8.1); clear HP8; replace HO_1 := uA hp_; replace HB := uA (by rw [hw]; exact below_set (HB.out) GB7.out : Below w.heap.size w w9); clear hg hw hp_))
       go_roundg k1
       case measure => have := HK1.out; omega
       case rel => exact ⟨(y341), (wrap64 (x2_1 + 1)), rfl, H', ⟨by have := HK1.out; omega⟩, ⟨uR HO_1.out⟩, ⟨uB HB.out⟩⟩
      ·rw [if_neg c6] at H
       (try rw [hr_.out] at H)
       cases H
     ·rw [if_neg c5] at H
      (try rw [hr_.out] at H)
      cases H
    ·rw [if_neg c4] at H
     have c4b0 : decide (x2_1 < 19) = false := decide_eq_false c4
     clear c4
     obtain ⟨⟨t342, t343, t344, t345, t346⟩, A10, H⟩ := uO H
     dsimp only at H
     obtain ⟨⟨t347, t348⟩, A11, H⟩ := uO H
     dsimp only at H
     obtain ⟨⟨t349, t350, t351, t352, t353⟩, A12, H⟩ := uO H
     dsimp only at H
     obtain ⟨⟨t354, t357⟩, A13, H⟩ := uO H
     dsimp only at H
     obtain ⟨⟨t358, t359, t360, t361, t362⟩, A14, H⟩ := uO H
     dsimp only at H
     by_cases c15 : 16 ≤ 281474976710656
     ·rw [if_pos c15] at H
      have c15b0 := eq_true c15
      have c15b1 : decide (16 ≤ 281474976710656) = true := decide_eq_true c15
      clear c15
      obtain ⟨y363, hy363⟩ : ∃ y_ : List Int, y_ = (List.replicate 16 0) := ⟨_, rfl⟩
      replace H : ((ecc_Pack.f k1 t358 t359 t360 t361 t362 y363).bind fun bt366 => (if (bt366.1.length : Int) = 19 then (if 3 < (bt366.1.length : Int) then ((casematelaw06_tiny.f).bind fun bt371 => ((ecc_Read.f k1 bt371.1 bt371.2.1 bt371.2.2.1 bt371.2.2.2.1 bt371.2.2.2.2 (bt366.1.set (3 : Int).toNat 4)).bind fun bt376 => (if t347 = 19 then (if t348 = 0 then (if t357 = 61 then (if bt366.2 = 0 then (if (strOfNums bt376.1).toList = (strOfNums (List.replicate 16 0)).toList then (if bt376.2.1 = 1 then (some (bt376.2.2 == 0)) else (some false)) else (some false)) else (some false)) else (some false)) else (some false)) else (some false)))) else (none)) else (some false))) = some r := by first | (rw [hy363]; with_reducible exact H) | (have H2_ := (Option.bind_some _ _).symm.trans H; rw [hy363]; with_reducible exact H2_) | (have H2_ := (Option.bind_some _ _).symm.trans H; with_reducible exact H2_) | with_reducible exact H | (rw [hy363]; exact H) | exact H
      have Ny363 := Aside0.mk hy363
      clear hy363
      replace H := Option.bind_eq_some_iff.mp H
      obtain ⟨⟨t366, t369⟩, A160, H⟩ := H
      replace H : (if (t366.length : Int) = 19 then (if 3 < (t366.length : Int) then ((casematelaw06_tiny.f).bind fun bt371 => ((ecc_Read.f k1 bt371.1 bt371.2.1 bt371.2.2.1 bt371.2.2.2.1 bt371.2.2.2.2 (t366.set (3 : Int).toNat 4)).bind fun bt376 => (if t347 = 19 then (if t348 = 0 then (if t357 = 61 then (if t369 = 0 then (if (strOfNums bt376.1).toList = (strOfNums (List.replicate 16 0)).toList then (if bt376.2.1 = 1 then (some (bt376.2.2 == 0)) else (some false)) else (some false)) else (some false)) else (some false)) else (some false)) else (some false)))) else (none)) else (some false)) = some r := H
      have A16 := Aside0.mk A160
      clear A160
      by_cases c17 : (t366.length : Int) = 19
      ·rw [if_pos c17] at H
       have c17b0 : ((t366.length : Int) == 19) = true := beq_iff_eq.mpr c17
       have c17b1 : ((t366.length : Int) != 19) = false := bne_eq_false_iff_eq.mpr c17
       clear c17
       by_cases c18 : 3 < (t366.length : Int)
       ·rw [if_pos c18] at H
        have c18b0 : decide (3 < (t366.length : Int)) = true := decide_eq_true c18
        have c18b1 : decide (3 < t366.length) = true := decide_eq_true (by omega)
        clear c18
        obtain ⟨y370, hy370⟩ : ∃ y_ : List Int, y_ = (t366.set (3 : Int).toNat 4) := ⟨_, rfl⟩
        replace H : ((casematelaw06_tiny.f).bind fun bt371 => ((ecc_Read.f k1 bt371.1 bt371.2.1 bt371.2.2.1 bt371.2.2.2.1 bt371.2.2.2.2 y370).bind fun bt376 => (if t347 = 19 then (if t348 = 0 then (if t357 = 61 then (if t369 = 0 then (if (strOfNums bt376.1).toList = (strOfNums (List.replicate 16 0)).toList then (if bt376.2.1 = 1 then (some (bt376.2.2 == 0)) else (some false)) else (some false)) else (some false)) else (some false)) else (some false)) else (some false)))) = some r := by first | (rw [hy370]; with_reducible exact H) | (have H2_ := (Option.bind_some _ _).symm.trans H; rw [hy370]; with_reducible exact H2_) | (have H2_ := (Option.bind_some _ _).symm.trans H; with_reducible exact H2_) | with_reducible exact H | (rw [hy370]; exact H) | exact H
        have Ny370 := Aside0.mk hy370
        clear hy370
        replace H := Option.bind_eq_some_iff.mp H
        obtain ⟨⟨t371, t372, t373, t374, t375⟩, A200, H⟩ := H
        replace H : ((ecc_Read.f k1 t371 t372 t373 t374 t375 y370).bind fun bt376 => (if t347 = 19 then (if t348 = 0 then (if t357 = 61 then (if t369 = 0 then (if (strOfNums bt376.1).toList = (strOfNums (List.replicate 16 0)).toList then (if bt376.2.1 = 1 then (some (bt376.2.2 == 0)) else (some false)) else (some false)) else (some false)) else (some false)) else (some false)) else (some false))) = some r := H
        have A20 := Aside0.mk A200
        clear A200
        replace H := Option.bind_eq_some_iff.mp H
        obtain ⟨⟨t376, t379, t380⟩, A210, H⟩ := H
        replace H : (if t347 = 19 then (if t348 = 0 then (if t357 = 61 then (if t369 = 0 then (if (strOfNums t376).toList = (strOfNums (List.replicate 16 0)).toList then (if t379 = 1 then (some (t380 == 0)) else (some false)) else (some false)) else (some false)) else (some false)) else (some false)) else (some false)) = some r := H
        have A21 := Aside0.mk A210
        clear A210
        by_cases c22 : t347 = 19
        ·rw [if_pos c22] at H
         have c22b0 : (t347 == 19) = true := beq_iff_eq.mpr c22
         have c22b1 : (t347 != 19) = false := bne_eq_false_iff_eq.mpr c22
         clear c22
         by_cases c23 : t348 = 0
         ·rw [if_pos c23] at H
          have c23b0 : (t348 == 0) = true := beq_iff_eq.mpr c23
          have c23b1 : (t348 != 0) = false := bne_eq_false_iff_eq.mpr c23
          clear c23
          by_cases c24 : t357 = 61
          ·rw [if_pos c24] at H
           have c24b0 : (t357 == 61) = true := beq_iff_eq.mpr c24
           have c24b1 : (t357 != 61) = false := bne_eq_false_iff_eq.mpr c24
           clear c24
           by_cases c25 : t369 = 0
           ·rw [if_pos c25] at H
            have c25b0 : (t369 == 0) = true := beq_iff_eq.mpr c25
            have c25b1 : (t369 != 0) = false := bne_eq_false_iff_eq.mpr c25
            clear c25
            obtain ⟨y381, hy381⟩ : ∃ y_ : List Int, y_ = (List.replicate 16 0) := ⟨_, rfl⟩
            replace H : (if (strOfNums t376).toList = (strOfNums y381).toList then (if t379 = 1 then (some (t380 == 0)) else (some false)) else (some false)) = some r := by first | (rw [hy381]; with_reducible exact H) | (have H2_ := (Option.bind_some _ _).symm.trans H; rw [hy381]; with_reducible exact H2_) | (have H2_ := (Option.bind_some _ _).symm.trans H; with_reducible exact H2_) | with_reducible exact H | (rw [hy381]; exact H) | exact H
            have Ny381 := Aside0.mk hy381
            clear hy381
            by_cases c26 : (strOfNums t376).toList = (strOfNums y381).toList
            ·rw [if_pos c26] at H
             have c26b0 : ((strOfNums t376).toList == (strOfNums y381).toList) = true := beq_iff_eq.mpr c26
             have c26b1 : ((strOfNums t376).toList != (strOfNums y381).toList) = false := bne_eq_false_iff_eq.mpr c26
             clear c26
             by_cases c27 : t379 = 1
             ·rw [if_pos c27] at H
              have c27b0 : (t379 == 1) = true := beq_iff_eq.mpr c27
              have c27b1 : (t379 != 1) = false := bne_eq_false_iff_eq.mpr c27
              clear c27
              obtain rfl := Option.some.inj H
              try go_wp2_with (first | ((with_reducible refine gate_callee (f := 29) rfl ?_); refine uG (some 21) Try.func29 #[] ?_; (with_reducible refine (casematelaw06_tiny.calls  t342 t343 t344 t345 t346 _ A10.out).mono ?_); rintro e w28 ⟨rfl, hb⟩; refine ⟨_, rfl, ?_⟩; replace HO_1 := uRb HO_1 hb; replace HB := uBb HB hb) | ((with_reducible refine gate_callee (f := 21) rfl ?_); refine uG (some 22) Try.func21 #[.agg #[.int .i64 t342, .int .i64 t343, .int .i64 t344, .int .i64 t345, .int .i64 t346]] ?_; (with_reducible refine (ecc_Raw.calls t342 t343 t344 t345 t346 t347 t348 _ A11.out).mono ?_); rintro e w29 ⟨rfl, hb⟩; refine ⟨_, rfl, ?_⟩; replace HO_1 := uRb HO_1 hb; replace HB := uBb HB hb) | ((with_reducible refine gate_callee (f := 29) rfl ?_); refine uG (some 26) Try.func29 #[] ?_; (with_reducible refine (casematelaw06_tiny.calls  t349 t350 t351 t352 t353 _ A12.out).mono ?_); rintro e w30 ⟨rfl, hb⟩; refine ⟨_, rfl, ?_⟩; replace HO_1 := uRb HO_1 hb; replace HB := uBb HB hb; obtain ⟨Ao31, co31, eo31⟩ := Kd.R_slice HO_1.out; subst eo31) | ((with_reducible refine gate_callee (f := 13) rfl ?_); refine uG (some 28) Try.func13 #[.agg #[.int .i64 t349, .int .i64 t350, .int .i64 t351, .int .i64 t352, .int .i64 t353], .slice Ao31 x1_1.length co31] ?_; (with_reducible refine (ecc_Unpack.calls k1 t349 t350 t351 t352 t353 (fun k_ => some k_ = (.slice Ao31 x1_1.length co31 : Value).ownBlock) _ _ x1_1 t354 t357 _ ?side1 A13.out).mono ?_); (case side1 => exact Kd.R_V (Kd.R_tight rfl (HO_1.out))); rintro e w32 ⟨v355, rfl, ho0, hb⟩; refine ⟨_, rfl, ?_⟩; have HO356 := uA (Kd.S_lower (Kd.S_new' (Kd.S_mono (ok' := fun k_ => True) ho0 (fun _ hk_ => trivial)) (Kd.R_lt (uR HO_1.out))) (below_size (uB HB.out))); replace HO_1 := uRb HO_1 hb; replace HB := uBb HB hb))
              replace HO_1 := uA (Kd.R_drew HO_1.out); replace HO356 := uA (Kd.S_drew HO356.out); replace HB := uA (below_drew1 HB.out)
              refine start_ (n := 8) (S := fun w' => True) (ds := []) #[false, false, false, false, false, false, false, false] (by kernel_rfl) rfl rfl trivial (fun hHeld => ?_); refine with_tabW casematelaw06_awake.tab8 casematelaw06_awake.bits8 (fun HT_ HW_ => ?_)
              generalize w32.drew = w33 at HO_1 HO356 HB hHeld ⊢
              refine join_ (σ := Value) 6 #[true, true, false, false, false, false, false, false] (fun s_ => [(32, .agg #[.int .i64 t358, .int .i64 t359, .int .i64 t360, .int .i64 t361, .int .i64 t362]), (33, s_)]) (fun s_ w' => (Kd.S k39 39 w' w.heap.size (fun k_ => some k_ ≠ (s_ : Value).ownBlock ∧ some k_ ≠ (.slice Ao31 x1_1.length co31 : Value).ownBlock) v355 t354) ∧ (Kd.R (Kd.int .u8) 5 w' w.heap.size (fun k_ => some k_ ≠ (.slice Ao31 x1_1.length co31 : Value).ownBlock) s_ y363) ∧ (Kd.R (Kd.int .u8) 5 w' w.heap.size (fun k_ => some k_ ≠ (s_ : Value).ownBlock) (.slice Ao31 x1_1.length co31) x1_1) ∧ (Below w.heap.size w w')) ?_ ?_
              rotate_left
              ·intro hCont
               refine two_ (i := 0) (j := 1) (Ni := some 32) (Nj := some 33) #[true, false, false, false, false, false, false, false] #[false, true, false, false, false, false, false, false] rfl rfl rfl rfl (two_of HT_.out (by kernel_rfl)) (by decide) (by decide) (fun K hK => ?_) (fun K hK => ?_)
               ·skip
                refine goes_ Try.func29 (by kernel_rfl) rfl #[] (by rfl) rfl rfl (by (try simp only [List.map_toArray, List.map_cons, List.map_nil]); first | done | rfl | (simp only [List.length_drop, List.length_take]; rfl)) ?_
                with_reducible refine (casematelaw06_tiny.calls  t358 t359 t360 t361 t362 _ A14.out).mono ?_
                rintro e w34 ⟨rfl, hb⟩
                refine ⟨_, rfl, ?_⟩
                replace HO_1 := uRb HO_1 hb; replace HO356 := uSb HO356 hb; replace HB := uBb HB hb
                refine hK.out _ _ trivial (fun hHeld => ?_)
                clear hK K
                refine uN (some 32) _ ?_
                refine one_ (i := 1) (N := some 33) #[true, true, false, false, false, false, false, false] rfl rfl (one_of HT_.out (by kernel_rfl)) (by decide) (fun K hK => ?_)
                refine Kd.R_make_step (Kd.int .u8) _ 5 (by rfl) (N := 33) rfl 26 _ _ rfl 16 rfl rfl Try.underlying26 (.int .u8 0) 1 info5 rfl (by decide) (by omega) 0 (ok := fun _ => True) (okp := fun _ => True) rfl (fun _ hk => hk) trivial (by omega) (by omega) (Below.refl _ _) (Nat.le_refl _) ?_
                intro v364 w35 ho36 hb hg_ hnew_
                clear hg_ hnew_
                (first | rw [← Ny363.out] at ho36 | (simp only [Int.reduceToNat] at ho36; rw [← Ny363.out] at ho36))
                replace HO356 := uA (Kd.S_elder' (uS HO356.out) (Kd.R_base ho36) hb); have HO365 := uA (Kd.R_lower (Kd.R_new' ho36 (Kd.R_lt (uR HO_1.out))) (below_size (uB HB.out))); replace HO_1 := uA (Kd.R_elder' (uR HO_1.out) (Kd.R_base ho36) hb); replace HB := uBb HB hb
                clear hb ho36
                refine hK.out _ _ trivial (fun hHeld => ?_)
                clear hK K
                refine uN (some 33) _ ?_
                exact norm_ (by simp only [putAll, Act.put, List.setIfInBounds_toArray, List.set_cons_zero, List.set_cons_succ]) (hCont (v364) _ ⟨(by (with_reducible repeat (first | apply Kd.S_alloc | apply Kd.S_drewN | apply Kd.S_drew)); exact Kd.S_mono HO356.out (fun _ hk => ⟨hk.2, hk.1.2⟩)), (by (with_reducible repeat (first | apply Kd.R_alloc | apply Kd.R_drewN | apply Kd.R_drew)); exact Kd.R_mono HO365.out (fun _ hk => hk.2)), (by (with_reducible repeat (first | apply Kd.R_alloc | apply Kd.R_drewN | apply Kd.R_drew)); exact Kd.R_mono HO_1.out (fun _ hk => hk.2)), (uB HB.out)⟩)
               ·skip
                refine Kd.R_make_step (Kd.int .u8) _ 5 (by rfl) (N := 33) rfl 26 _ _ rfl 16 rfl rfl Try.underlying26 (.int .u8 0) 1 info5 rfl (by decide) (by omega) 0 (ok := fun _ => True) (okp := fun _ => True) rfl (fun _ hk => hk) trivial (by omega) (by omega) (Below.refl _ _) (Nat.le_refl _) ?_
                intro v364 w34 ho35 hb hg_ hnew_
                clear hg_ hnew_
                (first | rw [← Ny363.out] at ho35 | (simp only [Int.reduceToNat] at ho35; rw [← Ny363.out] at ho35))
                replace HO356 := uA (Kd.S_elder' (uS HO356.out) (Kd.R_base ho35) hb); have HO365 := uA (Kd.R_lower (Kd.R_new' ho35 (Kd.R_lt (uR HO_1.out))) (below_size (uB HB.out))); replace HO_1 := uA (Kd.R_elder' (uR HO_1.out) (Kd.R_base ho35) hb); replace HB := uBb HB hb
                clear hb ho35
                refine hK.out _ _ trivial (fun hHeld => ?_)
                clear hK K
                refine uN (some 33) _ ?_
                refine one_ (i := 0) (N := some 32) #[true, true, false, false, false, false, false, false] rfl rfl (one_of HT_.out (by kernel_rfl)) (by decide) (fun K hK => ?_)
                refine goes_ Try.func29 (by kernel_rfl) rfl #[] (by rfl) rfl rfl (by (try simp only [List.map_toArray, List.map_cons, List.map_nil]); first | done | rfl | (simp only [List.length_drop, List.length_take]; rfl)) ?_
                with_reducible refine (casematelaw06_tiny.calls  t358 t359 t360 t361 t362 _ A14.out).mono ?_
                rintro e w36 ⟨rfl, hb⟩
                refine ⟨_, rfl, ?_⟩
                replace HO_1 := uRb HO_1 hb; replace HO356 := uSb HO356 hb; replace HO365 := uRb HO365 hb; replace HB := uBb HB hb
                refine hK.out _ _ trivial (fun hHeld => ?_)
                clear hK K
                refine uN (some 32) _ ?_
                exact norm_ (by simp only [putAll, Act.put, List.setIfInBounds_toArray, List.set_cons_zero, List.set_cons_succ]) (hCont (v364) _ ⟨(by (with_reducible repeat (first | apply Kd.S_alloc | apply Kd.S_drewN | apply Kd.S_drew)); exact Kd.S_mono HO356.out (fun _ hk => ⟨hk.2, hk.1.2⟩)), (by (with_reducible repeat (first | apply Kd.R_alloc | apply Kd.R_drewN | apply Kd.R_drew)); exact Kd.R_mono HO365.out (fun _ hk => hk.2)), (by (with_reducible repeat (first | apply Kd.R_alloc | apply Kd.R_drewN | apply Kd.R_drew)); exact Kd.R_mono HO_1.out (fun _ hk => hk.2)), (uB HB.out)⟩)
              rintro v364 w37 ⟨h0_, h1_, h2_, h3_⟩
              have n0_ : Aside0 (Kd.S k39 39 w37 w.heap.size (fun k_ => some k_ ≠ (v364 : Value).ownBlock ∧ some k_ ≠ (.slice Ao31 x1_1.length co31 : Value).ownBlock) v355 t354) := ⟨h0_⟩
              have n1_ : Aside0 (Kd.R (Kd.int .u8) 5 w37 w.heap.size (fun k_ => some k_ ≠ (.slice Ao31 x1_1.length co31 : Value).ownBlock) v364 y363) := ⟨h1_⟩
              have n2_ : Aside0 (Kd.R (Kd.int .u8) 5 w37 w.heap.size (fun k_ => some k_ ≠ (v364 : Value).ownBlock) (.slice Ao31 x1_1.length co31) x1_1) := ⟨h2_⟩
              have n3_ : Aside0 (Below w.heap.size w w37) := ⟨h3_⟩
              clear HO_1
              clear HO356
              clear HB
              clear h0_ h1_ h2_ h3_
              have HO356 := n0_
              have HO365 := n1_
              have HO_1 := n2_
              have HB := n3_
              clear n0_ n1_ n2_ n3_
              have hHeld := trivial
              obtain ⟨Ao38, co38, eo38⟩ := Kd.R_slice HO365.out
              (first | subst eo38 | (injection eo38 with f1_ f2_ f3_; have f4_ := f1_.symm; have f5_ := f3_.symm; clear f1_ f2_ f3_; subst f4_; subst f5_))
              refine norm_ (a' := ?_) ?_ ?_
              rotate_left; (simp only [putAll, Act.put, List.setIfInBounds_toArray, List.set_cons_zero, List.set_cons_succ]; rfl)
              refine one_ (i := 2) (N := some 34) #[true, true, true, false, false, false, false, false] rfl rfl (one_of HT_.out (by kernel_rfl)) (by decide) (fun K hK => ?_)
              refine goes_ Try.func18 (by kernel_rfl) rfl #[.agg #[.int .i64 t358, .int .i64 t359, .int .i64 t360, .int .i64 t361, .int .i64 t362], .slice Ao38 y363.length co38] (by rfl) rfl rfl (by (try simp only [List.map_toArray, List.map_cons, List.map_nil]); first | done | rfl | (simp only [List.length_drop, List.length_take]; rfl)) ?_
              with_reducible refine (ecc_Pack.calls k1 t358 t359 t360 t361 t362 (fun k_ => some k_ = (.slice Ao38 y363.length co38 : Value).ownBlock) _ _ y363 t366 t369 _ ?side1 A16.out).mono ?_
              (case side1 => exact Kd.R_V (Kd.R_tight rfl (Kd.R_apart' (HO365.out) (Kd.S_typed HO356.out) (by decide))))
              rintro e w39 ⟨v367, rfl, ho0, hb⟩
              refine ⟨_, rfl, ?_⟩
              replace HO356 := uA (Kd.S_elder' (uS HO356.out) (Kd.R_base ho0) hb); have HO368 := uA (Kd.R_lower (Kd.R_new' (Kd.R_new' (Kd.R_mono (ok' := fun k_ => True) ho0 (fun _ hk_ => trivial)) (Kd.R_lt (uR HO_1.out))) (Kd.R_lt (uR HO365.out))) (below_size (uB HB.out))); replace HO_1 := uA (Kd.R_elder' (uR HO_1.out) (Kd.R_base ho0) hb); replace HO365 := uA (Kd.R_elder' (uR HO365.out) (Kd.R_base ho0) hb); replace HB := uBb HB hb
              refine hK.out _ _ trivial (fun hHeld => ?_)
              clear hK K
              refine uN (some 34) _ ?_
              refine uP HT_ 3 (some 31) (lb 8 15) ?_
              refine uP HT_ 4 (some 35) (lb 8 31) ?_
              refine uP HT_ 5 (some 36) (lb 8 63) ?_
              refine uP HT_ 6 (some 7) (lb 8 127) ?_
              refine uP HT_ 7 (some 8) (lb 8 255) ?_
              refine done_ (done_of HT_.out (by kernel_rfl)) ?_
              obtain ⟨Ao40, co40, eo40⟩ := Kd.R_slice HO368.out
              subst eo40
              have p19 : 0 ≤ (3 : Int) := (by omega)
              have q19 : (3 : Int) < ((t366.length : Int) : Int) := of_decide_eq_true (by first | (with_reducible assumption) | assumption)
              have qi19 : (3 < t366.length) = True := eq_true (by omega)
              obtain ⟨go19, co19, eo19, gb19, gl19, cl19, HG19⟩ := Kd.R_form HO368.out (by omega)
              (first | cases eo19 | (injection eo19 with ea_ en_ ec_; (first | subst ea_ | (injection ea_ with ea_; subst ea_)); subst ec_; clear en_))
              have GB19 := Aside0.mk gb19
              have GG19 := Aside0.mk HG19
              clear gb19 gl19 HG19
              obtain ⟨hx19_0, hf19_0⟩ := Kd.R_celln 0 HO368.out (3 : Int) p19 q19
              (try rw [show ((3 : Int)).toNat = 3 from rfl] at hx19_0)
              (try simp only [Nat.reduceMul, Nat.zero_mul, Nat.zero_add, Nat.reduceAdd] at hx19_0)
              (try rw [show ((3 : Int)).toNat = 3 from rfl] at hf19_0)
              (try simp only [Nat.reduceMul, Nat.zero_mul, Nat.zero_add, Nat.reduceAdd] at hf19_0)
              replace p19 := eq_true p19
              replace q19 := eq_true q19
              have n_ := Aside0.mk (Kd.R_mono (ok' := (fun k_ => some k_ ≠ (.slice Ao31 x1_1.length co31 : Value).ownBlock ∧ some k_ ≠ (.slice Ao38 y363.length co38 : Value).ownBlock)) HO368.out (fun k_ hk => ⟨hk.1.2, hk.2⟩))
              clear HO368
              have HO368 := n_
              clear n_
              obtain ⟨hy41_, hz41_⟩ := Kd.R_celln 0 HO368.out (3 : Int) (by omega) (of_decide_eq_true (by first | (with_reducible assumption) | assumption))
              (try simp only [Int.reduceToNat, Int.toNat_zero, Int.toNat_ofNat, Nat.reduceMul, Nat.zero_mul, Nat.zero_add] at hy41_ hz41_)
              (try rw [show ((3 : Int)).toNat = 3 from rfl] at hy41_)
              (try rw [show ((3 : Int)).toNat = 3 from rfl] at hz41_)
              have HP41 := Kd.R_putg HO368.out (3 : Int) 4
              try go_wp2_with (first | ((with_reducible refine gate_store (t := 5) (p := 41) rfl ?_); refine store_event (t := 5) (p := 41) (v := ?vo_w42) (w1 := (w39.setCell ⟨go19, (3 : Int).toNat, none⟩ (.int .u8 4))) ?hg ?ho ?hn ?hr ?_; (case ho => rfl); (case hg => rfl); (case hn => rfl); (case hr => first | (go_simp; done) | (go_simp; rfl)); intro w42 hw; have hg : w39.grownBy w42 (some go19) := (by rw [hw]; exact HP41.2); have hp_ : Kd.R (Kd.int .u8) 5 w42 w.heap.size (fun k_ => some k_ ≠ (.slice Ao31 x1_1.length co31 : Value).ownBlock ∧ some k_ ≠ (.slice Ao38 y363.length co38 : Value).ownBlock) (.slice (some ⟨go19, 0, none⟩) t366.length co40) y370 := (by rw [hw, Ny370.out]; exact HP41.1); clear HP41; replace HO_1 := uA (Kd.R_after (v := (.slice (some ⟨go19, 0, none⟩) t366.length co40)) (v1 := (.slice (some ⟨go19, 0, none⟩) t366.length co40)) (ok := (fun k_ => some k_ ≠ (.slice Ao38 y363.length co38 : Value).ownBlock)) (uR HO_1.out) hg (.inl rfl)); replace HO356 := uA (Kd.S_after (v := (.slice (some ⟨go19, 0, none⟩) t366.length co40)) (v1 := (.slice (some ⟨go19, 0, none⟩) t366.length co40)) (ok := (fun k_ => some k_ ≠ (.slice Ao31 x1_1.length co31 : Value).ownBlock ∧ some k_ ≠ (.slice Ao38 y363.length co38 : Value).ownBlock)) (by (with_reducible repeat (first | apply Kd.S_alloc | apply Kd.S_drewN | apply Kd.S_drew)); exact Kd.S_mono HO356.out (fun _ hk => ⟨⟨hk.1.2, hk.1.1⟩, hk.2⟩)) hg (.inl rfl)); replace HO365 := uA (Kd.R_after (v := (.slice (some ⟨go19, 0, none⟩) t366.length co40)) (v1 := (.slice (some ⟨go19, 0, none⟩) t366.length co40)) (ok := (fun k_ => some k_ ≠ (.slice Ao31 x1_1.length co31 : Value).ownBlock)) (uR HO365.out) hg (.inl rfl)); replace HO368 := uA hp_; replace HB := uA (by rw [hw]; exact below_set (HB.out) GB19.out : Below w.heap.size w w42); clear hg hw hp_) | ((with_reducible refine gate_callee (f := 29) rfl ?_); refine uG (some 43) Try.func29 #[] ?_; (with_reducible refine (casematelaw06_tiny.calls  t371 t372 t373 t374 t375 _ A20.out).mono ?_); rintro e w43 ⟨rfl, hb⟩; refine ⟨_, rfl, ?_⟩; replace HO_1 := uRb HO_1 hb; replace HO356 := uSb HO356 hb; replace HO365 := uRb HO365 hb; replace HO368 := uRb HO368 hb; replace HB := uBb HB hb) | ((with_reducible refine gate_callee (f := 15) rfl ?_); refine goesL_ (some 45) rfl rfl Try.func15 (by kernel_rfl) rfl #[.agg #[.int .i64 t371, .int .i64 t372, .int .i64 t373, .int .i64 t374, .int .i64 t375], .slice (some ⟨go19, 0, none⟩) y370.length co40] rfl (by (try simp only [List.map_toArray, List.map_cons, List.map_nil]); first | done | (rw [show y370.length = t366.length from (Kd.R_reads' HO368.out).1.symm] <;> rfl) | rfl | (simp only [List.length_drop, List.length_take]; rfl)) ?_; (with_reducible refine (ecc_Read.calls k1 t371 t372 t373 t374 t375 _ _ y370 t376 t379 t380 _ ?side1 ?side2 A21.out).mono ?_); (case side1 => exact uC (Kd.R_reads' HO368.out).2.2); (case side2 => rw [show y370.length = t366.length from (Kd.R_reads' HO368.out).1.symm]; exact (Kd.R_reads' HO368.out).2.1); rintro e w44 ⟨v377, rfl, ho0, hb⟩; refine ⟨_, rfl, ?_⟩; replace HO356 := uA (Kd.S_elder' (uS HO356.out) (Kd.R_base ho0) hb); have HO378 := uA (Kd.R_lower (Kd.R_new' (Kd.R_new' (Kd.R_new' ho0 (Kd.R_lt (uR HO_1.out))) (Kd.R_lt (uR HO365.out))) (Kd.R_lt (uR HO368.out))) (below_size (uB HB.out))); replace HO_1 := uA (Kd.R_elder' (uR HO_1.out) (Kd.R_base ho0) hb); replace HO365 := uA (Kd.R_elder' (uR HO365.out) (Kd.R_base ho0) hb); replace HO368 := uA (Kd.R_elder' (uR HO368.out) (Kd.R_base ho0) hb); replace HB := uBb HB hb))
              replace HO_1 := uA (Kd.R_drew HO_1.out); replace HO356 := uA (Kd.S_drew HO356.out); replace HO365 := uA (Kd.R_drew HO365.out); replace HO368 := uA (Kd.R_drew HO368.out); replace HO378 := uA (Kd.R_drew HO378.out); replace HB := uA (below_drew1 HB.out)
              have hcv46 := own_string (P := Try.prog) Try.underlying26 Try.underlying5 Try.underlying9 (Kd.own_of_R HO378.out)
              refine start_ (n := 30) (S := fun w' => Sem.run Try.prog (convert 26 9 (v377)) w' = .ok (.string (strOfNums t376)) w') (ds := []) #[false, false, false, false, false, false, false, false, false, false, false, false, false, false, false, false, false, false, false, false, false, false, false, false, false, false, false, false, false, false] (by kernel_rfl) rfl rfl (by first | exact own_string (P := Try.prog) Try.underlying26 Try.underlying5 Try.underlying9 (Kd.own_of_R HO378.out) | exact own_string (P := Try.prog) Try.underlying26 Try.underlying5 Try.underlying9 (Kd.own_of_R (Kd.R_drewN HO378.out _))) (fun hHeld => ?_); refine with_tabW casematelaw06_awake.tab13 casematelaw06_awake.bits13 (fun HT_ HW_ => ?_)
              generalize w44.drew = w45 at HO_1 HO356 HO365 HO368 HO378 HB hHeld ⊢
              refine uP HT_ 0 (some 49) (lb 30 1) ?_
              refine uP HT_ 1 (some 50) (lb 30 3) ?_
              refine uP HT_ 2 (some 51) (lb 30 7) ?_
              refine uP HT_ 3 (some 52) (lb 30 15) ?_
              refine uP HT_ 4 (some 53) (lb 30 31) ?_
              refine uP HT_ 5 (some 54) (lb 30 63) ?_
              refine uP HT_ 6 (some 55) (lb 30 127) ?_
              refine uP HT_ 7 (some 56) (lb 30 255) ?_
              refine uP HT_ 8 (some 57) (lb 30 511) ?_
              refine uP HT_ 9 (some 58) (lb 30 1023) ?_
              refine uP HT_ 10 (some 59) (lb 30 2047) ?_
              refine uP HT_ 11 (some 60) (lb 30 4095) ?_
              refine uP HT_ 12 (some 61) (lb 30 8191) ?_
              refine uP HT_ 13 (some 62) (lb 30 16383) ?_
              refine uP HT_ 14 (some 63) (lb 30 32767) ?_
              refine uP HT_ 15 (some 64) (lb 30 65535) ?_
              refine uT HT_ HW_ 16 (some 65) (lb 30 131071) rfl hHeld ?_ (by rintro w' s0; go_simp; with_reducible rfl)
              refine one_ (i := 17) (N := some 66) #[true, true, true, true, true, true, true, true, true, true, true, true, true, true, true, true, true, true, false, false, false, false, false, false, false, false, false, false, false, false] rfl rfl (one_of HT_.out (by kernel_rfl)) (by decide) (fun K hK => ?_)
              refine Kd.R_make_step (Kd.int .u8) _ 5 (by rfl) (N := 66) rfl 26 _ _ rfl 16 rfl rfl Try.underlying26 (.int .u8 0) 1 info5 rfl (by decide) (by omega) 0 (ok := fun _ => True) (okp := fun _ => True) rfl (fun _ hk => hk) trivial (by omega) (by omega) (Below.refl _ _) (Nat.le_refl _) ?_
              intro v382 w47 ho48 hb hg_ hnew_
              clear hg_ hnew_
              (first | rw [← Ny381.out] at ho48 | (simp only [Int.reduceToNat] at ho48; rw [← Ny381.out] at ho48))
              replace HO356 := uA (Kd.S_elder' (uS HO356.out) (Kd.R_base ho48) hb); have HO383 := uA (Kd.R_lower (Kd.R_new' (Kd.R_new' (Kd.R_new' (Kd.R_new' ho48 (Kd.R_lt (uR HO_1.out))) (Kd.R_lt (uR HO365.out))) (Kd.R_lt (uR HO368.out))) (Kd.R_lt (uR HO378.out))) (below_size (uB HB.out))); replace HO_1 := uA (Kd.R_elder' (uR HO_1.out) (Kd.R_base ho48) hb); replace HO365 := uA (Kd.R_elder' (uR HO365.out) (Kd.R_base ho48) hb); replace HO368 := uA (Kd.R_elder' (uR HO368.out) (Kd.R_base ho48) hb); replace HO378 := uA (Kd.R_elder' (uR HO378.out) (Kd.R_base ho48) hb); replace HB := uBb HB hb
              clear hb ho48
              refine hK.out _ _ (by first | exact own_string (P := Try.prog) Try.underlying26 Try.underlying5 Try.underlying9 (Kd.own_of_R HO378.out) | exact own_string (P := Try.prog) Try.underlying26 Try.underlying5 Try.underlying9 (Kd.own_of_R (Kd.R_drewN HO378.out _))) (fun hHeld => ?_)
              clear hK K
              refine uN (some 66) _ ?_
              refine one_ (i := 18) (N := some 67) #[true, true, true, true, true, true, true, true, true, true, true, true, true, true, true, true, true, true, true, false, false, false, false, false, false, false, false, false, false, false] rfl rfl (one_of HT_.out (by kernel_rfl)) (by decide) (fun K hK => ?_)
              have hcv49 := own_string (P := Try.prog) Try.underlying26 Try.underlying5 Try.underlying9 (Kd.own_of_R HO383.out)
              refine value_ (w1 := ?_) (v := ?_) (by rfl) rfl ?_ ?_
              rotate_left 2
              ·go_simp
               constructor
               ·rfl
               ·rfl
              clear hcv49
              refine hK.out _ _ (by first | exact own_string (P := Try.prog) Try.underlying26 Try.underlying5 Try.underlying9 (Kd.own_of_R HO378.out) | exact own_string (P := Try.prog) Try.underlying26 Try.underlying5 Try.underlying9 (Kd.own_of_R (Kd.R_drewN HO378.out _))) (fun hHeld => ?_)
              clear hK K
              refine uN (some 67) _ ?_
              refine uP HT_ 19 (some 68) (lb 30 1048575) ?_
              refine uP HT_ 20 (some 69) (lb 30 2097151) ?_
              refine uP HT_ 21 (some 70) (lb 30 4194303) ?_
              refine uP HT_ 22 (some 71) (lb 30 8388607) ?_
              refine uP HT_ 23 (some 72) (lb 30 16777215) ?_
              refine uP HT_ 24 (some 73) (lb 30 33554431) ?_
              refine uP HT_ 25 (some 74) (lb 30 67108863) ?_
              refine uP HT_ 26 (some 75) (lb 30 134217727) ?_
              refine uP HT_ 27 (some 76) (lb 30 268435455) ?_
              refine uP HT_ 28 (some 77) (lb 30 536870911) ?_
              refine uP HT_ 29 (some 0) (lb 30 1073741823) ?_
              refine done_ (done_of HT_.out (by kernel_rfl)) ?_
              try go_wp2
              go_ret
              exact ⟨rfl, uB HB.out⟩
             ·rw [if_neg c27] at H
              (try rw [hr_.out] at H)
              cases H
            ·rw [if_neg c26] at H
             (try rw [hr_.out] at H)
             cases H
           ·rw [if_neg c25] at H
            (try rw [hr_.out] at H)
            cases H
          ·rw [if_neg c24] at H
           (try rw [hr_.out] at H)
           cases H
         ·rw [if_neg c23] at H
          (try rw [hr_.out] at H)
          cases H
        ·rw [if_neg c22] at H
         (try rw [hr_.out] at H)
         cases H
       ·rw [if_neg c18] at H
        (try rw [hr_.out] at H)
        cases H
      ·rw [if_neg c17] at H
       (try rw [hr_.out] at H)
       cases H
     ·rw [if_neg c15] at H
      (try rw [hr_.out] at H)
      cases H
 ·rw [if_neg c1] at H
  (try rw [hr_.out] at H)
  cases H
mutual
def casematelaw06_EccSectors.j0 : Nat → List Int → Int → List Int → Bool → Int → Int → Int → Int → Int → Option (Bool)
 | 0, _, _, _, _, _, _, _, _, _ => none
 | k + 1, x1, x2, x3, x40, x412000, x412001, x412002, x412003, x412004 => if x40 = true then (some true) else ((ecc_Pack.f k x412000 x412001 x412002 x412003 x412004 x1).bind fun bt415 => (if bt415.2 = 0 then ((casemateref06_Raw.f x412000 x412001 x412002 x412003 x412004).bind fun t419 => (casematelaw06_EccSectors.j1 k x1 x2 x3 bt415.1 ((bt415.1.length : Int) != t419) x412000 x412001 x412002 x412003 x412004)) else (casematelaw06_EccSectors.j1 k x1 x2 x3 bt415.1 true x412000 x412001 x412002 x412003 x412004)))
def casematelaw06_EccSectors.j1 : Nat → List Int → Int → List Int → List Int → Bool → Int → Int → Int → Int → Int → Option (Bool)
 | 0, _, _, _, _, _, _, _, _, _, _ => none
 | k + 1, x1, x2, x3, x9, x55, x412000, x412001, x412002, x412003, x412004 => if x55 = true then (some false) else ((casemateref06_Whole.f x412000 x412001 x412002 x412003 x412004).bind fun t420 => (casematelaw06_EccSectors.l0 k x1 x2 x3 x9 t420 0 x412000 x412001 x412002 x412003 x412004))
def casematelaw06_EccSectors.j3 : Nat → List Int → Int → List Int → Int → Int → Int → Int → Int → Option (Bool)
 | 0, _, _, _, _, _, _, _, _ => none
 | k + 1, x1, x2, x9, x412000, x412001, x412002, x412003, x412004 => (ecc_Unpack.f k x412000 x412001 x412002 x412003 x412004 x9).bind fun bt423 => (if bt423.2 = 0 then (casematelaw06_EccSectors.j4 k x1 x2 bt423.1 ((bt423.1.length : Int) != x412002) x412000 x412001 x412002 x412003 x412004) else (casematelaw06_EccSectors.j4 k x1 x2 bt423.1 true x412000 x412001 x412002 x412003 x412004))
def casematelaw06_EccSectors.j4 : Nat → List Int → Int → List (S39) → Bool → Int → Int → Int → Int → Int → Option (Bool)
 | 0, _, _, _, _, _, _, _, _, _ => none
 | k + 1, x1, x2, x13, x94, x412000, x412001, x412002, x412003, x412004 => if x94 = true then (some false) else (casematelaw06_EccSectors.l1 k x1 x2 x13 0 x412000 x412001 x412002 x412003 x412004)
def casematelaw06_EccSectors.l1 : Nat → List Int → Int → List (S39) → Int → Int → Int → Int → Int → Int → Option (Bool)
 | 0, _, _, _, _, _, _, _, _, _ => none
 | k + 1, x1, x2, x13, x15, x412000, x412001, x412002, x412003, x412004 => if x15 < (x13.length : Int) then (if x15 = x2 then (casematelaw06_EccSectors.l1 k x1 x2 x13 (wrap64 (x15 + 1)) x412000 x412001 x412002 x412003 x412004) else (if 0 ≤ x15 then (if ((rd_T39 x13 x15).f2) = 0 then (if ((rd_T39 x13 x15).f1) = 0 then (if 0 ≤ (wrap64 (x15 * x412003)) then (if (wrap64 (x15 * x412003)) ≤ (wrap64 ((wrap64 (x15 + 1)) * x412003)) then (if (wrap64 ((wrap64 (x15 + 1)) * x412003)) ≤ (x1.length : Int) then (if (strOfNums ((rd_T39 x13 x15).f0)).toList = (strOfNums ((x1.take ((wrap64 ((wrap64 (x15 + 1)) * x412003)) : Int).toNat).drop ((wrap64 (x15 * x412003)) : Int).toNat)).toList then (casematelaw06_EccSectors.l1 k x1 x2 x13 (wrap64 (x15 + 1)) x412000 x412001 x412002 x412003 x412004) else (some false)) else (none)) else (none)) else (none)) else (some false)) else (some false)) else (none))) else ((casematelaw06_awake.f k).bind fun t431 => (some t431))
def casematelaw06_EccSectors.l0 : Nat → List Int → Int → List Int → List Int → Int → Int → Int → Int → Int → Int → Int → Option (Bool)
 | 0, _, _, _, _, _, _, _, _, _, _, _ => none
 | k + 1, x1, x2, x3, x9, x11, x12, x412000, x412001, x412002, x412003, x412004 => if x12 < x11 then (if x12 < (x3.length : Int) then (if 0 ≤ x12 then (if 0 ≤ (wrap64 ((wrap64 (x2 * x11)) + x12)) then (if (wrap64 ((wrap64 (x2 * x11)) + x12)) < (x9.length : Int) then (casematelaw06_EccSectors.l0 k x1 x2 x3 (x9.set ((wrap64 ((wrap64 (x2 * x11)) + x12)) : Int).toNat (rd x3 x12)) x11 (wrap64 (x12 + 1)) x412000 x412001 x412002 x412003 x412004) else (none)) else (none)) else (none)) else (casematelaw06_EccSectors.j3 k x1 x2 x9 x412000 x412001 x412002 x412003 x412004)) else (casematelaw06_EccSectors.j3 k x1 x2 x9 x412000 x412001 x412002 x412003 x412004)
end
def casematelaw06_EccSectors.f (k : Nat) (a0_0 : Int) (a0_1 : Int) (a0_2 : Int) (a0_3 : Int) (a0_4 : Int) (l1 : List Int) (a2 : Int) (l3 : List Int) : Option (Bool) := (casematelaw06_small.f a0_0 a0_1 a0_2 a0_3 a0_4).bind fun t412 => (if t412 = true then ((casemateref06_May.f a0_0 a0_1 a0_2 a0_3 a0_4).bind fun t413 => (if t413 = true then ((casemateref06_Room.f a0_0 a0_1 a0_2 a0_3 a0_4).bind fun t414 => (if (l1.length : Int) = t414 then (if a2 < 0 then (casematelaw06_EccSectors.j0 k l1 a2 l3 true a0_0 a0_1 a0_2 a0_3 a0_4) else (casematelaw06_EccSectors.j0 k l1 a2 l3 (decide (a2 ≥ a0_2)) a0_0 a0_1 a0_2 a0_3 a0_4)) else (casematelaw06_EccSectors.j0 k l1 a2 l3 true a0_0 a0_1 a0_2 a0_3 a0_4))) else (casematelaw06_EccSectors.j0 k l1 a2 l3 true a0_0 a0_1 a0_2 a0_3 a0_4))) else (casematelaw06_EccSectors.j0 k l1 a2 l3 true a0_0 a0_1 a0_2 a0_3 a0_4))
def casematelaw06_EccSectors.T17 : Bool × List (List Nat × List Nat) := (true, [([], []), ([], []), ([0, 1], [0, 1]), ([2], [2]), ([3], [3]), ([3], [3]), ([4, 5, 3], [3, 4, 5]), ([6, 3], [3, 6]), ([7, 3], [3, 7]), ([8, 3], [3, 8]), ([9, 3, 3], [3, 9]), ([10], [10]), ([10], [10]), ([11, 12, 10], [10, 11, 12]), ([13, 10], [10, 13]), ([14, 10], [10, 14]), ([15, 10], [10, 15]), ([10, 16, 3], [3, 10, 16]), ([17, 10, 3], [3, 17]), ([18], [18]), ([18], [18]), ([19, 20, 18], [18, 19, 20]), ([21, 18], [18, 21]), ([22, 18], [18, 22]), ([23, 18], [18, 23]), ([18], [18]), ([18], [18]), ([18], [18]), ([27, 18], [18, 27]), ([26, 28, 18], [18, 26, 28]), ([18], [18]), ([30, 18], [18, 30]), ([18], [18]), ([32, 18], [18, 32]), ([31, 33, 18], [18, 31, 33]), ([25, 29, 34, 18], [18, 25, 29, 34]), ([35, 18], [18, 35]), ([24, 36, 18], [18, 24, 36]), ([18, 37, 3], [3, 18, 37]), ([3, 38], [3, 38])])
def casematelaw06_EccSectors.B17 : List Nat := [0, 0, 3, 7, 15, 15, 63, 127, 255, 511, 1023, 2047, 2047, 8191, 16383, 32767, 65535, 131071, 262143, 524287, 524287, 2097151, 4194303, 8388607, 16777215, 524287, 524287, 524287, 134742015, 470286335, 524287, 1074266111, 524287, 4295491583, 16106651647, 34326708223, 68686446591, 137438953471, 274877906943, 549755813887]
theorem casematelaw06_EccSectors.tab17 : rtab .any (opsOf Try.f4 17) = casematelaw06_EccSectors.T17 := by kernel_rfl
theorem casematelaw06_EccSectors.bits17 : waitsOk casematelaw06_EccSectors.T17.2 casematelaw06_EccSectors.B17 = true := by kernel_rfl
set_option maxHeartbeats 8000000 in
set_option maxRecDepth 100000 in
theorem casematelaw06_EccSectors.calls (k : Nat) (a0_0 : Int) (a0_1 : Int) (a0_2 : Int) (a0_3 : Int) (a0_4 : Int) (A1 : Option Addr) (c1 : Nat) (l1 : List Int) (a2 : Int) (A3 : Option Addr) (c3 : Nat) (l3 : List Int) (r : Bool) (hr0_ : r = true) (w : World) (hr1 : Kd.C (Kd.int .u8) w A1 l1.length l1) (hc1 : l1.length ≤ c1) (hr3 : Kd.C (Kd.int .u8) w A3 l3.length l3) (hc3 : l3.length ≤ c3) (h : casematelaw06_EccSectors.f k a0_0 a0_1 a0_2 a0_3 a0_4 l1 a2 l3 = some r) :
  Calls Try.prog 4 #[.agg #[.int .i64 a0_0, .int .i64 a0_1, .int .i64 a0_2, .int .i64 a0_3, .int .i64 a0_4], .slice A1 l1.length c1, .int .i64 a2, .slice A3 l3.length c3] w fun e w' => e = .returned (.bool r) ∧ Below w.heap.size w w' := by
 have hu23 := Try.underlying23
 have HR1 := Aside0.mk hr1
 have HC1 := Aside0.mk hc1
 clear hr1 hc1
 have HR3 := Aside0.mk hr3
 have HC3 := Aside0.mk hc3
 clear hr3 hc3
 have HB := Aside0.mk (Below.refl w.heap.size w)
 have hr_ := Aside0.mk hr0_
 have H := h
 unfold casematelaw06_EccSectors.f at H
 clear h
 have HC5 := Aside0.mk H
 clear H
 go_enter Try.func4, Try.ntmps4
 go_upto_region 1 with (first | ((with_reducible refine gate_dst (N := 4) rfl ?_); (try (refine gate_guard (by rfl) ?_; dsimp only)); refine uX 4 #[.int .i64 a0_0, .int .i64 a0_1, .int .i64 a0_2, .int .i64 a0_3, .int .i64 a0_4] 23 ?_; intro gb411 hg w6 hbox hb; have BK411 := uA hbox; have GW411 := uGe HB hg; have GE411 := uGe HB hg; replace HB := uBb HB hb; clear hg))
 (try simp only [Act.put, List.setIfInBounds_toArray, List.set_cons_zero, List.set_cons_succ])
 go_cut [40] (fun v40 wc => ∃ (kq : Nat) (x40_4 : Bool), v40 = .bool x40_4 ∧ Aside0 (casematelaw06_EccSectors.j0 kq l1 a2 l3 x40_4 a0_0 a0_1 a0_2 a0_3 a0_4 = some r) ∧ Aside0 (kq ≤ k) ∧ Aside0 (wc.heap[gb411]? = some (.cells #[.int .i64 a0_0, .int .i64 a0_1, .int .i64 a0_2, .int .i64 a0_3, .int .i64 a0_4] 23 (0, 0))) ∧ Aside0 (Below w.heap.size w wc))
 case first =>
  have H := HC5.out
  clear HC5
  obtain ⟨t412, A7, H⟩ := uO H
  by_cases c8 : t412 = true
  ·subst c8
   replace H := uI rfl H
   obtain ⟨t413, A9, H⟩ := uO H
   by_cases c10 : t413 = true
   ·subst c10
    replace H := uI rfl H
    obtain ⟨t414, A11, H⟩ := uO H
    by_cases c12 : (l1.length : Int) = t414
    ·rw [if_pos c12] at H
     have c12b0 : ((l1.length : Int) == t414) = true := beq_iff_eq.mpr c12
     have c12b1 : ((l1.length : Int) != t414) = false := bne_eq_false_iff_eq.mpr c12
     clear c12
     (first | rw [c12b0] | (simp only [i64_w, i32_w]; rw [c12b0]) | skip)
     by_cases c13 : a2 < 0
     ·rw [if_pos c13] at H
      have c13b0 : decide (a2 < 0) = true := decide_eq_true c13
      clear c13
      have H' := Aside0.mk H
      clear H
      obtain ⟨_, _, _, _, _, _, _, _, _, _⟩ := uZ BK411
      go_wp2_with (first | ((with_reducible refine gate_callee (f := 9) rfl ?_); refine uG (some 17) Try.func9 #[.agg #[.int .i64 a0_0, .int .i64 a0_1, .int .i64 a0_2, .int .i64 a0_3, .int .i64 a0_4]] ?_; (with_reducible refine (casematelaw06_small.calls a0_0 a0_1 a0_2 a0_3 a0_4 true _ A7.out).mono ?_); rintro e w15 ⟨rfl, hb⟩; refine ⟨_, rfl, ?_⟩; replace BK411 := uKb BK411 hb; replace HB := uBb HB hb; obtain ⟨_, _, _, _, _, _, _, _, _, _⟩ := uZ BK411) | (go_at_call 10; (with_reducible refine (casemateref06_May.calls a0_0 a0_1 a0_2 a0_3 a0_4 true _ A9.out).mono ?_); rintro e w17 ⟨rfl, hb⟩; replace BK411 := uKb BK411 hb; replace HB := uBb HB hb; obtain ⟨_, _, _, _, _, _, _, _, _, _⟩ := uZ BK411) | (go_at_call 17; (with_reducible refine (casemateref06_Room.calls a0_0 a0_1 a0_2 a0_3 a0_4 t414 _ A11.out).mono ?_); rintro e w19 ⟨rfl, hb⟩; replace BK411 := uKb BK411 hb; replace HB := uBb HB hb))
      go_meet
      case rel => exact ⟨_, (true), rfl, H', ⟨by omega⟩, ⟨uK BK411.out⟩, ⟨uB HB.out⟩⟩
     ·rw [if_neg c13] at H
      have c13b0 : decide (a2 < 0) = false := decide_eq_false c13
      clear c13
      have H' := Aside0.mk H
      clear H
      obtain ⟨_, _, _, _, _, _, _, _, _, _⟩ := uZ BK411
      go_wp2_with (first | ((with_reducible refine gate_callee (f := 9) rfl ?_); refine uG (some 17) Try.func9 #[.agg #[.int .i64 a0_0, .int .i64 a0_1, .int .i64 a0_2, .int .i64 a0_3, .int .i64 a0_4]] ?_; (with_reducible refine (casematelaw06_small.calls a0_0 a0_1 a0_2 a0_3 a0_4 true _ A7.out).mono ?_); rintro e w21 ⟨rfl, hb⟩; refine ⟨_, rfl, ?_⟩; replace BK411 := uKb BK411 hb; replace HB := uBb HB hb; obtain ⟨_, _, _, _, _, _, _, _, _, _⟩ := uZ BK411) | (go_at_call 10; (with_reducible refine (casemateref06_May.calls a0_0 a0_1 a0_2 a0_3 a0_4 true _ A9.out).mono ?_); rintro e w23 ⟨rfl, hb⟩; replace BK411 := uKb BK411 hb; replace HB := uBb HB hb; obtain ⟨_, _, _, _, _, _, _, _, _, _⟩ := uZ BK411) | (go_at_call 17; (with_reducible refine (casemateref06_Room.calls a0_0 a0_1 a0_2 a0_3 a0_4 t414 _ A11.out).mono ?_); rintro e w25 ⟨rfl, hb⟩; replace BK411 := uKb BK411 hb; replace HB := uBb HB hb; obtain ⟨_, _, _, _, _, _, _, _, _, _⟩ := uZ BK411))
      go_meet
      case rel => exact ⟨_, (decide (a2 ≥ a0_2)), rfl, H', ⟨by omega⟩, ⟨uK BK411.out⟩, ⟨uB HB.out⟩⟩
    ·rw [if_neg c12] at H
     have c12b0 : ((l1.length : Int) == t414) = false := beq_eq_false_iff_ne.mpr c12
     have c12b1 : ((l1.length : Int) != t414) = true := bne_iff_ne.mpr c12
     (first | rw [c12b0] | (simp only [i64_w, i32_w]; rw [c12b0]) | skip)
     have H' := Aside0.mk H
     clear H
     obtain ⟨_, _, _, _, _, _, _, _, _, _⟩ := uZ BK411
     go_wp2_with (first | ((with_reducible refine gate_callee (f := 9) rfl ?_); refine uG (some 17) Try.func9 #[.agg #[.int .i64 a0_0, .int .i64 a0_1, .int .i64 a0_2, .int .i64 a0_3, .int .i64 a0_4]] ?_; (with_reducible refine (casematelaw06_small.calls a0_0 a0_1 a0_2 a0_3 a0_4 true _ A7.out).mono ?_); rintro e w28 ⟨rfl, hb⟩; refine ⟨_, rfl, ?_⟩; replace BK411 := uKb BK411 hb; replace HB := uBb HB hb; obtain ⟨_, _, _, _, _, _, _, _, _, _⟩ := uZ BK411) | (go_at_call 10; (with_reducible refine (casemateref06_May.calls a0_0 a0_1 a0_2 a0_3 a0_4 true _ A9.out).mono ?_); rintro e w30 ⟨rfl, hb⟩; replace BK411 := uKb BK411 hb; replace HB := uBb HB hb; obtain ⟨_, _, _, _, _, _, _, _, _, _⟩ := uZ BK411) | (go_at_call 17; (with_reducible refine (casemateref06_Room.calls a0_0 a0_1 a0_2 a0_3 a0_4 t414 _ A11.out).mono ?_); rintro e w32 ⟨rfl, hb⟩; replace BK411 := uKb BK411 hb; replace HB := uBb HB hb))
     go_meet
     case rel => exact ⟨_, (true), rfl, H', ⟨by omega⟩, ⟨uK BK411.out⟩, ⟨uB HB.out⟩⟩
   ·replace c10 := Bool.eq_false_iff.mpr c10
    subst c10
    replace H := uJ uN0 H
    have H' := Aside0.mk H
    clear H
    obtain ⟨_, _, _, _, _, _, _, _, _, _⟩ := uZ BK411
    go_wp2_with (first | ((with_reducible refine gate_callee (f := 9) rfl ?_); refine uG (some 17) Try.func9 #[.agg #[.int .i64 a0_0, .int .i64 a0_1, .int .i64 a0_2, .int .i64 a0_3, .int .i64 a0_4]] ?_; (with_reducible refine (casematelaw06_small.calls a0_0 a0_1 a0_2 a0_3 a0_4 true _ A7.out).mono ?_); rintro e w34 ⟨rfl, hb⟩; refine ⟨_, rfl, ?_⟩; replace BK411 := uKb BK411 hb; replace HB := uBb HB hb; obtain ⟨_, _, _, _, _, _, _, _, _, _⟩ := uZ BK411) | (go_at_call 10; (with_reducible refine (casemateref06_May.calls a0_0 a0_1 a0_2 a0_3 a0_4 false _ A9.out).mono ?_); rintro e w36 ⟨rfl, hb⟩; replace BK411 := uKb BK411 hb; replace HB := uBb HB hb))
    go_meet
    case rel => exact ⟨_, (true), rfl, H', ⟨by omega⟩, ⟨uK BK411.out⟩, ⟨uB HB.out⟩⟩
  ·replace c8 := Bool.eq_false_iff.mpr c8
   subst c8
   replace H := uJ uN0 H
   have H' := Aside0.mk H
   clear H
   obtain ⟨_, _, _, _, _, _, _, _, _, _⟩ := uZ BK411
   go_wp2_with (first | ((with_reducible refine gate_callee (f := 9) rfl ?_); refine uG (some 17) Try.func9 #[.agg #[.int .i64 a0_0, .int .i64 a0_1, .int .i64 a0_2, .int .i64 a0_3, .int .i64 a0_4]] ?_; (with_reducible refine (casematelaw06_small.calls a0_0 a0_1 a0_2 a0_3 a0_4 false _ A7.out).mono ?_); rintro e w38 ⟨rfl, hb⟩; refine ⟨_, rfl, ?_⟩; replace BK411 := uKb BK411 hb; replace HB := uBb HB hb))
   go_meet
   case rel => exact ⟨_, (true), rfl, H', ⟨by omega⟩, ⟨uK BK411.out⟩, ⟨uB HB.out⟩⟩
 case rest =>
  clear HC5
  obtain ⟨kq, x40_4, rfl, HA, HJ4, BK411, HB⟩ := hcut
  cases kq with
  | zero => exact absurd HA.out (by simp [casematelaw06_EccSectors.j0])
  | succ kj4 =>
   have H := HA.out
   clear HA
   simp only [casematelaw06_EccSectors.j0] at H
   by_cases c39 : x40_4 = true
   ·subst c39
    replace H := uI rfl H
    obtain rfl := Option.some.inj H
    go_wp2
    go_ret
    exact ⟨rfl, uB HB.out⟩
   ·replace c39 := Bool.eq_false_iff.mpr c39
    subst c39
    replace H := uJ uN0 H
    obtain ⟨⟨t415, t418⟩, A40, H⟩ := uO H
    dsimp only at H
    have HC41 := Aside0.mk H
    clear H
    obtain ⟨_, _, _, _, _, _, _, _, _, _⟩ := uZ BK411
    go_upto_region 4 with (first | ((with_reducible refine gate_callee (f := 18) rfl ?_); refine uG (some 44) Try.func18 #[.agg #[.int .i64 a0_0, .int .i64 a0_1, .int .i64 a0_2, .int .i64 a0_3, .int .i64 a0_4], .slice A1 l1.length c1] ?_; (with_reducible refine (ecc_Pack.calls kj4 a0_0 a0_1 a0_2 a0_3 a0_4 (fun k_ => k_ < w.heap.size) _ _ l1 t415 t418 _ ?side1 A40.out).mono ?_); (case side1 => exact Kd.V_mk HC1.out (Kd.F_below (Kd.C_F (Kd.heap_int .u8) HR1.out) (uB HB.out))); rintro e w43 ⟨v416, rfl, ho0, hb⟩; refine ⟨_, rfl, ?_⟩; have HO417 := uA (Kd.R_lower (Kd.R_mono (ok' := fun k_ => True) ho0 (fun _ hk_ => trivial)) (below_size (uB HB.out))); replace BK411 := uKb BK411 hb; replace HB := uBb HB hb))
    (try simp only [Act.put, List.setIfInBounds_toArray, List.set_cons_zero, List.set_cons_succ])
    go_cut [55] (fun v55 wc => ∃ (kq : Nat) (x55_40 : Bool), v55 = .bool x55_40 ∧ Aside0 (casematelaw06_EccSectors.j1 kq l1 a2 l3 t415 x55_40 a0_0 a0_1 a0_2 a0_3 a0_4 = some r) ∧ Aside0 (kq ≤ kj4) ∧ Aside0 (Kd.R (Kd.int .u8) 5 wc w.heap.size (fun _ => True) v416 t415) ∧ Aside0 (wc.heap[gb411]? = some (.cells #[.int .i64 a0_0, .int .i64 a0_1, .int .i64 a0_2, .int .i64 a0_3, .int .i64 a0_4] 23 (0, 0))) ∧ Aside0 (Below w.heap.size w wc))
    case first =>
     have H := HC41.out
     clear HC41
     by_cases c44 : t418 = 0
     ·rw [if_pos c44] at H
      have c44b0 : (t418 == 0) = true := beq_iff_eq.mpr c44
      have c44b1 : (t418 != 0) = false := bne_eq_false_iff_eq.mpr c44
      clear c44
      (first | rw [c44b0] | (simp only [i64_w, i32_w]; rw [c44b0]) | skip)
      obtain ⟨t419, A45, H⟩ := uO H
      have H' := Aside0.mk H
      clear H
      obtain ⟨Ao46, co46, eo46⟩ := Kd.R_slice HO417.out
      subst eo46
      obtain ⟨_, _, _, _, _, _, _, _, _, _⟩ := uZ BK411
      go_wp2_with (first | (go_at_call 12; (with_reducible refine (casemateref06_Raw.calls a0_0 a0_1 a0_2 a0_3 a0_4 t419 _ A45.out).mono ?_); rintro e w48 ⟨rfl, hb⟩; replace HO417 := uRb HO417 hb; replace BK411 := uKb BK411 hb; replace HB := uBb HB hb))
      go_meet
      case rel => exact ⟨_, (((t415.length : Int) != t419)), rfl, H', ⟨by have := HJ4.out; omega⟩, ⟨uR HO417.out⟩, ⟨uK BK411.out⟩, ⟨uB HB.out⟩⟩
     ·rw [if_neg c44] at H
      have c44b0 : (t418 == 0) = false := beq_eq_false_iff_ne.mpr c44
      have c44b1 : (t418 != 0) = true := bne_iff_ne.mpr c44
      (first | rw [c44b0] | (simp only [i64_w, i32_w]; rw [c44b0]) | skip)
      have H' := Aside0.mk H
      clear H
      go_wp2
      go_meet
      case rel => exact ⟨_, (true), rfl, H', ⟨by have := HJ4.out; omega⟩, ⟨uR HO417.out⟩, ⟨uK BK411.out⟩, ⟨uB HB.out⟩⟩
    case rest =>
     clear HC41
     obtain ⟨kq, x55_40, rfl, HA, HJ40, HO_9, BK411, HB⟩ := hcut
     cases kq with
     | zero => exact absurd HA.out (by simp [casematelaw06_EccSectors.j1])
     | succ kj40 =>
      have H := HA.out
      clear HA
      simp only [casematelaw06_EccSectors.j1] at H
      by_cases c49 : x55_40 = true
      ·subst c49
       have H1 : (some false) = some r := by rw [if_pos rfl] at H; exact H
       rw [hr_.out] at H1
       exact absurd H1 (by simp)
      ·replace c49 := Bool.eq_false_iff.mpr c49
       subst c49
       replace H := uJ uN0 H
       obtain ⟨t420, A50, H⟩ := uO H
       have HC51 := Aside0.mk H
       clear H
       obtain ⟨_, _, _, _, _, _, _, _, _, _⟩ := uZ BK411
       go_upto_block 0 with (first | ((with_reducible refine gate_callee (f := 11) rfl ?_); refine uG (some 57) Try.func11 #[.agg #[.int .i64 a0_0, .int .i64 a0_1, .int .i64 a0_2, .int .i64 a0_3, .int .i64 a0_4]] ?_; (with_reducible refine (casemateref06_Whole.calls a0_0 a0_1 a0_2 a0_3 a0_4 t420 _ A50.out).mono ?_); rintro e w53 ⟨rfl, hb⟩; refine ⟨_, rfl, ?_⟩; replace HO_9 := uRb HO_9 hb; replace BK411 := uKb BK411 hb; replace HB := uBb HB hb))
       (try simp only [Act.put, List.setIfInBounds_toArray, List.set_cons_zero, List.set_cons_succ])
       go_cut [] (fun wc => ∃ (kq : Nat) (x9_50 : List Int), Aside0 (casematelaw06_EccSectors.j3 kq l1 a2 x9_50 a0_0 a0_1 a0_2 a0_3 a0_4 = some r) ∧ Aside0 (kq ≤ kj40) ∧ Aside0 (Kd.R (Kd.int .u8) 5 wc w.heap.size (fun _ => True) v416 x9_50) ∧ Aside0 (wc.heap[gb411]? = some (.cells #[.int .i64 a0_0, .int .i64 a0_1, .int .i64 a0_2, .int .i64 a0_3, .int .i64 a0_4] 23 (0, 0))) ∧ Aside0 (Below w.heap.size w wc))
       case first =>
        have H := HC51.out
        clear HC51
        have H' := Aside0.mk H
        clear H
        go_wp2
        go_loopg [12] kj40 (fun kq v12 w' => ∃ (x9_3 : List Int) (x12_3 : Int), v12 = .int .i64 x12_3 ∧ Aside0 (casematelaw06_EccSectors.l0 kq l1 a2 l3 x9_3 t420 x12_3 a0_0 a0_1 a0_2 a0_3 a0_4 = some r) ∧ Aside0 (kq ≤ kj40) ∧ Aside0 (Kd.R (Kd.int .u8) 5 w' w.heap.size (fun _ => True) v416 x9_3) ∧ Aside0 (w'.heap[gb411]? = some (.cells #[.int .i64 a0_0, .int .i64 a0_1, .int .i64 a0_2, .int .i64 a0_3, .int .i64 a0_4] 23 (0, 0))) ∧ Aside0 (Below w.heap.size w w'))
        case atStart => exact ⟨(t415), (0), rfl, H', ⟨Nat.le_refl _⟩, ⟨uR HO_9.out⟩, ⟨uK BK411.out⟩, ⟨uB HB.out⟩⟩
        case round =>
         clear H'
         obtain ⟨x9_3, x12_3, rfl, HA, HK3, HO_9, BK411, HB⟩ := hrel
         cases gk with
         | zero => exact absurd HA.out (by simp [casematelaw06_EccSectors.l0])
         | succ k3 =>
          have H := HA.out
          clear HA
          simp only [casematelaw06_EccSectors.l0] at H
          by_cases c54 : x12_3 < t420
          ·rw [if_pos c54] at H
           have c54b0 : decide (x12_3 < t420) = true := decide_eq_true c54
           clear c54
           (first | rw [c54b0] | (simp only [i64_w, i32_w]; rw [c54b0]) | skip)
           by_cases c55 : x12_3 < (l3.length : Int)
           ·rw [if_pos c55] at H
            have c55b0 : decide (x12_3 < (l3.length : Int)) = true := decide_eq_true c55
            clear c55
            by_cases c56 : 0 ≤ x12_3
            ·rw [if_pos c56] at H
             have c56b0 : decide (0 ≤ x12_3) = true := decide_eq_true c56
             clear c56
             obtain ⟨ji57, hji57⟩ : ∃ j_ : Int, (wrap64 ((wrap64 (a2 * t420)) + x12_3)) = j_ := ⟨_, rfl⟩
             first | rw [hji57] at H | simp only [hji57] at H
             have hji57w : (IntKind.i64.wrap ((wrap64 (a2 * t420)) + x12_3)) = ji57 := (i64_w _).trans hji57
             by_cases c58 : 0 ≤ (ji57)
             ·rw [if_pos c58] at H
              have c58b0 : decide (0 ≤ (ji57)) = true := decide_eq_true c58
              clear c58
              by_cases c59 : (ji57) < (x9_3.length : Int)
              ·rw [if_pos c59] at H
               have c59b0 : decide ((ji57) < (x9_3.length : Int)) = true := decide_eq_true c59
               clear c59
               obtain ⟨y422, Ny422⟩ := uEA ((x9_3.set ((ji57) : Int).toNat (rd l3 x12_3)) : List Int)
               rw [← Ny422.out] at H
               have H' := Aside0.mk H
               clear H
               have p421 : 0 ≤ (x12_3 : Int) := of_decide_eq_true (by first | (with_reducible assumption) | assumption)
               have q421 : x12_3 < (l3.length : Int) := of_decide_eq_true (by first | (with_reducible assumption) | assumption)
               obtain ⟨ad421, e421, hx421_0⟩ := Kd.at_int HR3.out x12_3 p421 q421
               cases e421
               replace hx421_0 := (HB.out.cell (World.block_lt_of_cell? w _ hx421_0)).trans hx421_0
               replace p421 := eq_true p421
               replace q421 := eq_true q421
               have p60 : 0 ≤ ((ji57) : Int) := of_decide_eq_true (by first | (with_reducible assumption) | assumption)
               have q60 : ((ji57) : Int) < ((x9_3.length : Int) : Int) := of_decide_eq_true (by first | (with_reducible assumption) | assumption)
               obtain ⟨go60, co60, eo60, gb60, gl60, cl60, HG60⟩ := Kd.R_form HO_9.out (by omega)
               (first | cases eo60 | (injection eo60 with ea_ en_ ec_; (first | subst ea_ | (injection ea_ with ea_; subst ea_)); subst ec_; clear en_))
               have GB60 := Aside0.mk gb60
               have GG60 := Aside0.mk HG60
               clear gb60 gl60 HG60
               obtain ⟨hx60_0, hf60_0⟩ := Kd.R_celln 0 HO_9.out ((ji57) : Int) p60 q60
               replace p60 := eq_true p60
               replace q60 := eq_true q60
               have HP61 := Kd.R_putg HO_9.out ((ji57) : Int) (rd l3 x12_3)
               go_wp2_with (first | ((with_reducible refine gate_store (t := 5) (p := 79) rfl ?_); refine store_event (t := 5) (p := 79) (v := ?vo_w62) (w1 := (wr.setCell ⟨go60, ((ji57) : Int).toNat, none⟩ (.int .u8 (rd l3 x12_3)))) ?hg ?ho ?hn ?hr ?_; (case ho => rfl); (case hg => rfl); (case hn => rfl); (case hr => first | (go_simp; done) | (go_simp; rfl)); intro w62 hw; have hg : wr.grownBy w62 (some go60) := (by rw [hw]; exact HP61.2); have hp_ : Kd.R (Kd.int .u8) 5 w62 w.heap.size (fun _ => True) (.slice (some ⟨go60, 0, none⟩) x9_3.length co60) y422 := (by rw [hw, Ny422.out]; exact HP61.1); clear HP61; replace BK411 := uA (blk_grown (g := gb411) (o := .cells #[.int .i64 a0_0, .int .i64 a0_1, .int .i64 a0_2, .int .i64 a0_3, .int .i64 a0_4] 23 (0, 0)) (uK BK411.out) hg (Kd.R_ne HO_9.out BK411.out (by decide))); replace HO_9 := uA hp_; replace HB := uA (by rw [hw]; exact below_set (HB.out) GB60.out : Below w.heap.size w w62); clear hg hw hp_))
               go_roundg k3
               case measure => have := HJ4.out; have := HJ40.out; have := HK3.out; omega
               case rel => exact ⟨(y422), (wrap64 (x12_3 + 1)), rfl, H', ⟨by have := HJ4.out; have := HJ40.out; have := HK3.out; omega⟩, ⟨uR HO_9.out⟩, ⟨uK BK411.out⟩, ⟨uB HB.out⟩⟩
              ·rw [if_neg c59] at H
               cases H
             ·rw [if_neg c58] at H
              cases H
            ·rw [if_neg c56] at H
             cases H
           ·rw [if_neg c55] at H
            have c55b0 : decide (x12_3 < (l3.length : Int)) = false := decide_eq_false c55
            clear c55
            have H' := Aside0.mk H
            clear H
            go_wp2
            go_meet
            case rel => exact ⟨_, (x9_3), H', ⟨by have := HJ4.out; have := HJ40.out; have := HK3.out; omega⟩, ⟨uR HO_9.out⟩, ⟨uK BK411.out⟩, ⟨uB HB.out⟩⟩
          ·rw [if_neg c54] at H
           have c54b0 : decide (x12_3 < t420) = false := decide_eq_false c54
           clear c54
           (first | rw [c54b0] | (simp only [i64_w, i32_w]; rw [c54b0]) | skip)
           have H' := Aside0.mk H
           clear H
           go_wp2
           go_meet
           case rel => exact ⟨_, (x9_3), H', ⟨by have := HJ4.out; have := HJ40.out; have := HK3.out; omega⟩, ⟨uR HO_9.out⟩, ⟨uK BK411.out⟩, ⟨uB HB.out⟩⟩
       case rest =>
        clear HC51
        obtain ⟨kq, x9_50, HA, HJ50, HO_9, BK411, HB⟩ := hcut
        cases kq with
        | zero => exact absurd HA.out (by simp [casematelaw06_EccSectors.j3])
        | succ kj50 =>
         have H := HA.out
         clear HA
         simp only [casematelaw06_EccSectors.j3] at H
         obtain ⟨⟨t423, t426⟩, A63, H⟩ := uO H
         dsimp only at H
         have HC64 := Aside0.mk H
         clear H
         obtain ⟨_, _, _, _, _, _, _, _, _, _⟩ := uZ BK411
         obtain ⟨Ao66, co66, eo66⟩ := Kd.R_slice HO_9.out
         subst eo66
         go_upto_region 12 with (first | ((with_reducible refine gate_callee (f := 13) rfl ?_); refine uG (some 83) Try.func13 #[.agg #[.int .i64 a0_0, .int .i64 a0_1, .int .i64 a0_2, .int .i64 a0_3, .int .i64 a0_4], .slice Ao66 x9_50.length co66] ?_; (with_reducible refine (ecc_Unpack.calls kj50 a0_0 a0_1 a0_2 a0_3 a0_4 (fun k_ => some k_ = (.slice Ao66 x9_50.length co66 : Value).ownBlock) _ _ x9_50 t423 t426 _ ?side1 A63.out).mono ?_); (case side1 => exact Kd.R_V (Kd.R_tight rfl (Kd.R_types (HO_9.out) BK411.out (by decide)))); rintro e w67 ⟨v424, rfl, ho0, hb⟩; refine ⟨_, rfl, ?_⟩; have HO425 := uA (Kd.S_lower (Kd.S_new' (Kd.S_mono (ok' := fun k_ => True) ho0 (fun _ hk_ => trivial)) (Kd.R_lt (uR HO_9.out))) (below_size (uB HB.out))); replace HO_9 := uRb HO_9 hb; replace BK411 := uKb BK411 hb; replace HB := uBb HB hb))
         (try simp only [Act.put, List.setIfInBounds_toArray, List.set_cons_zero, List.set_cons_succ])
         go_cut [94] (fun v94 wc => ∃ (kq : Nat) (x94_63 : Bool), v94 = .bool x94_63 ∧ Aside0 (casematelaw06_EccSectors.j4 kq l1 a2 t423 x94_63 a0_0 a0_1 a0_2 a0_3 a0_4 = some r) ∧ Aside0 (kq ≤ kj50) ∧ Aside0 (Kd.S k39 39 wc w.heap.size (fun _ => True) v424 t423) ∧ Aside0 (wc.heap[gb411]? = some (.cells #[.int .i64 a0_0, .int .i64 a0_1, .int .i64 a0_2, .int .i64 a0_3, .int .i64 a0_4] 23 (0, 0))) ∧ Aside0 (Below w.heap.size w wc))
         case first =>
          have H := HC64.out
          clear HC64
          by_cases c68 : t426 = 0
          ·rw [if_pos c68] at H
           have c68b0 : (t426 == 0) = true := beq_iff_eq.mpr c68
           have c68b1 : (t426 != 0) = false := bne_eq_false_iff_eq.mpr c68
           clear c68
           (first | rw [c68b0] | (simp only [i64_w, i32_w]; rw [c68b0]) | skip)
           have H' := Aside0.mk H
           clear H
           obtain ⟨Ao69, co69, eo69⟩ := Kd.S_slice HO425.out
           subst eo69
           obtain ⟨_, _, _, _, _, _, _, _, _, _⟩ := uZ BK411
           go_wp2
           go_meet
           case rel => exact ⟨_, (((t423.length : Int) != a0_2)), rfl, H', ⟨by have := HJ4.out; have := HJ40.out; have := HJ50.out; omega⟩, ⟨by (with_reducible repeat (first | apply Kd.S_alloc | apply Kd.S_drewN | apply Kd.S_drew)); exact Kd.S_mono HO425.out (fun _ hk => trivial)⟩, ⟨uK BK411.out⟩, ⟨uB HB.out⟩⟩
          ·rw [if_neg c68] at H
           have c68b0 : (t426 == 0) = false := beq_eq_false_iff_ne.mpr c68
           have c68b1 : (t426 != 0) = true := bne_iff_ne.mpr c68
           (first | rw [c68b0] | (simp only [i64_w, i32_w]; rw [c68b0]) | skip)
           have H' := Aside0.mk H
           clear H
           go_wp2
           go_meet
           case rel => exact ⟨_, (true), rfl, H', ⟨by have := HJ4.out; have := HJ40.out; have := HJ50.out; omega⟩, ⟨by (with_reducible repeat (first | apply Kd.S_alloc | apply Kd.S_drewN | apply Kd.S_drew)); exact Kd.S_mono HO425.out (fun _ hk => trivial)⟩, ⟨uK BK411.out⟩, ⟨uB HB.out⟩⟩
         case rest =>
          clear HC64
          obtain ⟨kq, x94_63, rfl, HA, HJ63, HO_13, BK411, HB⟩ := hcut
          cases kq with
          | zero => exact absurd HA.out (by simp [casematelaw06_EccSectors.j4])
          | succ kj63 =>
           have H := HA.out
           clear HA
           simp only [casematelaw06_EccSectors.j4] at H
           by_cases c71 : x94_63 = true
           ·subst c71
            have H1 : (some false) = some r := by rw [if_pos rfl] at H; exact H
            rw [hr_.out] at H1
            exact absurd H1 (by simp)
           ·replace c71 := Bool.eq_false_iff.mpr c71
            subst c71
            replace H := uJ uN0 H
            have H' := Aside0.mk H
            clear H
            go_wp2
            go_loopg [15] kj63 (fun kq v15 w' => ∃ (x15_5 : Int), v15 = .int .i64 x15_5 ∧ Aside0 (casematelaw06_EccSectors.l1 kq l1 a2 t423 x15_5 a0_0 a0_1 a0_2 a0_3 a0_4 = some r) ∧ Aside0 (kq ≤ kj63) ∧ Aside0 (Kd.S k39 39 w' w.heap.size (fun _ => True) v424 t423) ∧ Aside0 (w'.heap[gb411]? = some (.cells #[.int .i64 a0_0, .int .i64 a0_1, .int .i64 a0_2, .int .i64 a0_3, .int .i64 a0_4] 23 (0, 0))) ∧ Aside0 (Below w.heap.size w w'))
            case atStart => exact ⟨(0), rfl, H', ⟨Nat.le_refl _⟩, ⟨uS HO_13.out⟩, ⟨uK BK411.out⟩, ⟨uB HB.out⟩⟩
            case round =>
             clear H'
             obtain ⟨x15_5, rfl, HA, HK5, HO_13, BK411, HB⟩ := hrel
             cases gk with
             | zero => exact absurd HA.out (by simp [casematelaw06_EccSectors.l1])
             | succ k5 =>
              have H := HA.out
              clear HA
              simp only [casematelaw06_EccSectors.l1] at H
              by_cases c72 : x15_5 < (t423.length : Int)
              ·rw [if_pos c72] at H
               have c72b0 : decide (x15_5 < (t423.length : Int)) = true := decide_eq_true c72
               clear c72
               by_cases c73 : x15_5 = a2
               ·rw [if_pos c73] at H
                have c73b0 : (x15_5 == a2) = true := beq_iff_eq.mpr c73
                have c73b1 : (x15_5 != a2) = false := bne_eq_false_iff_eq.mpr c73
                clear c73
                have H' := Aside0.mk H
                clear H
                obtain ⟨Ao74, co74, eo74⟩ := Kd.S_slice HO_13.out
                subst eo74
                try go_wp2
                replace HO_13 := uA (Kd.S_drew HO_13.out); replace BK411 := uA (blk_drew BK411.out); replace HB := uA (below_drew1 HB.out)
                refine start_ (n := 40) (S := fun w' => True) (ds := []) #[false, false, false, false, false, false, false, false, false, false, false, false, false, false, false, false, false, false, false, false, false, false, false, false, false, false, false, false, false, false, false, false, false, false, false, false, false, false, false, false] (by kernel_rfl) rfl rfl trivial (fun hHeld => ?_); refine with_tabW casematelaw06_EccSectors.tab17 casematelaw06_EccSectors.bits17 (fun HT_ HW_ => ?_)
                generalize wr.drew = w75 at HO_13 BK411 HB hHeld ⊢
                refine uP HT_ 0 (some 101) (lb 40 1) ?_
                refine uP HT_ 1 (some 102) (lb 40 3) ?_
                refine uP HT_ 2 (some 103) (lb 40 7) ?_
                refine uP HT_ 3 (some 104) (lb 40 15) ?_
                refine pure_ (i := 4) (N := some 105) (v := undef) (a' := ?_) #[true, true, true, true, true, false, false, false, false, false, false, false, false, false, false, false, false, false, false, false, false, false, false, false, false, false, false, false, false, false, false, false, false, false, false, false, false, false, false, false] rfl rfl (any_of HT_.out (by kernel_rfl)) (fun _ _ _ h => h) (Or.inr ⟨by rfl, rfl⟩) ?_ ?_
                rotate_left; (simp only [Act.put, List.setIfInBounds_toArray, List.set_cons_zero, List.set_cons_succ, i64_w, i32_w]; rfl)
                refine pure_ (i := 5) (N := some 106) (v := undef) (a' := ?_) #[true, true, true, true, true, true, false, false, false, false, false, false, false, false, false, false, false, false, false, false, false, false, false, false, false, false, false, false, false, false, false, false, false, false, false, false, false, false, false, false] rfl rfl (any_of HT_.out (by kernel_rfl)) (fun _ _ _ h => h) (Or.inr ⟨by rfl, rfl⟩) ?_ ?_
                rotate_left; (simp only [Act.put, List.setIfInBounds_toArray, List.set_cons_zero, List.set_cons_succ, i64_w, i32_w]; rfl)
                refine pure_ (i := 6) (N := some 107) (v := undef) (a' := ?_) #[true, true, true, true, true, true, true, false, false, false, false, false, false, false, false, false, false, false, false, false, false, false, false, false, false, false, false, false, false, false, false, false, false, false, false, false, false, false, false, false] rfl rfl (any_of HT_.out (by kernel_rfl)) (fun _ _ _ h => h) (Or.inr ⟨by rfl, rfl⟩) ?_ ?_
                rotate_left; (simp only [Act.put, List.setIfInBounds_toArray, List.set_cons_zero, List.set_cons_succ, i64_w, i32_w]; rfl)
                refine pure_ (i := 7) (N := some 108) (v := undef) (a' := ?_) #[true, true, true, true, true, true, true, true, false, false, false, false, false, false, false, false, false, false, false, false, false, false, false, false, false, false, false, false, false, false, false, false, false, false, false, false, false, false, false, false] rfl rfl (any_of HT_.out (by kernel_rfl)) (fun _ _ _ h => h) (Or.inr ⟨by rfl, rfl⟩) ?_ ?_
                rotate_left; (simp only [Act.put, List.setIfInBounds_toArray, List.set_cons_zero, List.set_cons_succ, i64_w, i32_w]; rfl)
                refine pure_ (i := 8) (N := some 109) (v := undef) (a' := ?_) #[true, true, true, true, true, true, true, true, true, false, false, false, false, false, false, false, false, false, false, false, false, false, false, false, false, false, false, false, false, false, false, false, false, false, false, false, false, false, false, false] rfl rfl (any_of HT_.out (by kernel_rfl)) (fun _ _ _ h => h) (Or.inr ⟨by rfl, rfl⟩) ?_ ?_
                rotate_left; (simp only [Act.put, List.setIfInBounds_toArray, List.set_cons_zero, List.set_cons_succ, i64_w, i32_w]; rfl)
                refine pure_ (i := 9) (N := some 110) (v := undef) (a' := ?_) #[true, true, true, true, true, true, true, true, true, true, false, false, false, false, false, false, false, false, false, false, false, false, false, false, false, false, false, false, false, false, false, false, false, false, false, false, false, false, false, false] rfl rfl (any_of HT_.out (by kernel_rfl)) (fun _ _ _ h => h) (Or.inr ⟨by rfl, rfl⟩) ?_ ?_
                rotate_left; (simp only [Act.put, List.setIfInBounds_toArray, List.set_cons_zero, List.set_cons_succ, i64_w, i32_w]; rfl)
                refine pure_ (i := 10) (N := some 111) (v := undef) (a' := ?_) #[true, true, true, true, true, true, true, true, true, true, true, false, false, false, false, false, false, false, false, false, false, false, false, false, false, false, false, false, false, false, false, false, false, false, false, false, false, false, false, false] rfl rfl (any_of HT_.out (by kernel_rfl)) (fun _ _ _ h => h) (Or.inr ⟨by rfl, rfl⟩) ?_ ?_
                rotate_left; (simp only [Act.put, List.setIfInBounds_toArray, List.set_cons_zero, List.set_cons_succ, i64_w, i32_w]; rfl)
                refine pure_ (i := 11) (N := some 112) (v := undef) (a' := ?_) #[true, true, true, true, true, true, true, true, true, true, true, true, false, false, false, false, false, false, false, false, false, false, false, false, false, false, false, false, false, false, false, false, false, false, false, false, false, false, false, false] rfl rfl (any_of HT_.out (by kernel_rfl)) (fun _ _ _ h => h) (Or.inr ⟨by rfl, rfl⟩) ?_ ?_
                rotate_left; (simp only [Act.put, List.setIfInBounds_toArray, List.set_cons_zero, List.set_cons_succ, i64_w, i32_w]; rfl)
                refine pure_ (i := 12) (N := some 113) (v := undef) (a' := ?_) #[true, true, true, true, true, true, true, true, true, true, true, true, true, false, false, false, false, false, false, false, false, false, false, false, false, false, false, false, false, false, false, false, false, false, false, false, false, false, false, false] rfl rfl (any_of HT_.out (by kernel_rfl)) (fun _ _ _ h => h) (Or.inr ⟨by rfl, rfl⟩) ?_ ?_
                rotate_left; (simp only [Act.put, List.setIfInBounds_toArray, List.set_cons_zero, List.set_cons_succ, i64_w, i32_w]; rfl)
                refine pure_ (i := 13) (N := some 114) (v := undef) (a' := ?_) #[true, true, true, true, true, true, true, true, true, true, true, true, true, true, false, false, false, false, false, false, false, false, false, false, false, false, false, false, false, false, false, false, false, false, false, false, false, false, false, false] rfl rfl (any_of HT_.out (by kernel_rfl)) (fun _ _ _ h => h) (Or.inr ⟨by rfl, rfl⟩) ?_ ?_
                rotate_left; (simp only [Act.put, List.setIfInBounds_toArray, List.set_cons_zero, List.set_cons_succ, i64_w, i32_w]; rfl)
                refine pure_ (i := 14) (N := some 115) (v := undef) (a' := ?_) #[true, true, true, true, true, true, true, true, true, true, true, true, true, true, true, false, false, false, false, false, false, false, false, false, false, false, false, false, false, false, false, false, false, false, false, false, false, false, false, false] rfl rfl (any_of HT_.out (by kernel_rfl)) (fun _ _ _ h => h) (Or.inr ⟨by rfl, rfl⟩) ?_ ?_
                rotate_left; (simp only [Act.put, List.setIfInBounds_toArray, List.set_cons_zero, List.set_cons_succ, i64_w, i32_w]; rfl)
                refine pure_ (i := 15) (N := some 116) (v := undef) (a' := ?_) #[true, true, true, true, true, true, true, true, true, true, true, true, true, true, true, true, false, false, false, false, false, false, false, false, false, false, false, false, false, false, false, false, false, false, false, false, false, false, false, false] rfl rfl (any_of HT_.out (by kernel_rfl)) (fun _ _ _ h => h) (Or.inr ⟨by rfl, rfl⟩) ?_ ?_
                rotate_left; (simp only [Act.put, List.setIfInBounds_toArray, List.set_cons_zero, List.set_cons_succ, i64_w, i32_w]; rfl)
                refine pure_ (i := 16) (N := some 117) (v := undef) (a' := ?_) #[true, true, true, true, true, true, true, true, true, true, true, true, true, true, true, true, true, false, false, false, false, false, false, false, false, false, false, false, false, false, false, false, false, false, false, false, false, false, false, false] rfl rfl (any_of HT_.out (by kernel_rfl)) (fun _ _ _ h => h) (Or.inr ⟨by rfl, rfl⟩) ?_ ?_
                rotate_left; (simp only [Act.put, List.setIfInBounds_toArray, List.set_cons_zero, List.set_cons_succ, i64_w, i32_w]; rfl)
                refine pure_ (i := 17) (N := some 118) (v := undef) (a' := ?_) #[true, true, true, true, true, true, true, true, true, true, true, true, true, true, true, true, true, true, false, false, false, false, false, false, false, false, false, false, false, false, false, false, false, false, false, false, false, false, false, false] rfl rfl (any_of HT_.out (by kernel_rfl)) (fun _ _ _ h => h) (Or.inr ⟨by rfl, rfl⟩) ?_ ?_
                rotate_left; (simp only [Act.put, List.setIfInBounds_toArray, List.set_cons_zero, List.set_cons_succ, i64_w, i32_w]; rfl)
                refine pure_ (i := 18) (N := some 119) (v := undef) (a' := ?_) #[true, true, true, true, true, true, true, true, true, true, true, true, true, true, true, true, true, true, true, false, false, false, false, false, false, false, false, false, false, false, false, false, false, false, false, false, false, false, false, false] rfl rfl (any_of HT_.out (by kernel_rfl)) (fun _ _ _ h => h) (Or.inr ⟨by rfl, rfl⟩) ?_ ?_
                rotate_left; (simp only [Act.put, List.setIfInBounds_toArray, List.set_cons_zero, List.set_cons_succ, i64_w, i32_w]; rfl)
                refine pure_ (i := 19) (N := some 120) (v := undef) (a' := ?_) #[true, true, true, true, true, true, true, true, true, true, true, true, true, true, true, true, true, true, true, true, false, false, false, false, false, false, false, false, false, false, false, false, false, false, false, false, false, false, false, false] rfl rfl (any_of HT_.out (by kernel_rfl)) (fun _ _ _ h => h) (Or.inr ⟨by rfl, rfl⟩) ?_ ?_
                rotate_left; (simp only [Act.put, List.setIfInBounds_toArray, List.set_cons_zero, List.set_cons_succ, i64_w, i32_w]; rfl)
                refine pure_ (i := 20) (N := some 121) (v := undef) (a' := ?_) #[true, true, true, true, true, true, true, true, true, true, true, true, true, true, true, true, true, true, true, true, true, false, false, false, false, false, false, false, false, false, false, false, false, false, false, false, false, false, false, false] rfl rfl (any_of HT_.out (by kernel_rfl)) (fun _ _ _ h => h) (Or.inr ⟨by rfl, rfl⟩) ?_ ?_
                rotate_left; (simp only [Act.put, List.setIfInBounds_toArray, List.set_cons_zero, List.set_cons_succ, i64_w, i32_w]; rfl)
                refine pure_ (i := 21) (N := some 122) (v := undef) (a' := ?_) #[true, true, true, true, true, true, true, true, true, true, true, true, true, true, true, true, true, true, true, true, true, true, false, false, false, false, false, false, false, false, false, false, false, false, false, false, false, false, false, false] rfl rfl (any_of HT_.out (by kernel_rfl)) (fun _ _ _ h => h) (Or.inr ⟨by rfl, rfl⟩) ?_ ?_
                rotate_left; (simp only [Act.put, List.setIfInBounds_toArray, List.set_cons_zero, List.set_cons_succ, i64_w, i32_w]; rfl)
                refine pure_ (i := 22) (N := some 123) (v := undef) (a' := ?_) #[true, true, true, true, true, true, true, true, true, true, true, true, true, true, true, true, true, true, true, true, true, true, true, false, false, false, false, false, false, false, false, false, false, false, false, false, false, false, false, false] rfl rfl (any_of HT_.out (by kernel_rfl)) (fun _ _ _ h => h) (Or.inr ⟨by rfl, rfl⟩) ?_ ?_
                rotate_left; (simp only [Act.put, List.setIfInBounds_toArray, List.set_cons_zero, List.set_cons_succ, i64_w, i32_w]; rfl)
                refine pure_ (i := 23) (N := some 124) (v := undef) (a' := ?_) #[true, true, true, true, true, true, true, true, true, true, true, true, true, true, true, true, true, true, true, true, true, true, true, true, false, false, false, false, false, false, false, false, false, false, false, false, false, false, false, false] rfl rfl (any_of HT_.out (by kernel_rfl)) (fun _ _ _ h => h) (Or.inr ⟨by rfl, rfl⟩) ?_ ?_
                rotate_left; (simp only [Act.put, List.setIfInBounds_toArray, List.set_cons_zero, List.set_cons_succ, i64_w, i32_w]; rfl)
                refine pure_ (i := 24) (N := some 125) (v := undef) (a' := ?_) #[true, true, true, true, true, true, true, true, true, true, true, true, true, true, true, true, true, true, true, true, true, true, true, true, true, false, false, false, false, false, false, false, false, false, false, false, false, false, false, false] rfl rfl (any_of HT_.out (by kernel_rfl)) (fun _ _ _ h => h) (Or.inr ⟨by rfl, rfl⟩) ?_ ?_
                rotate_left; (simp only [Act.put, List.setIfInBounds_toArray, List.set_cons_zero, List.set_cons_succ, i64_w, i32_w]; rfl)
                refine pure_ (i := 25) (N := some 126) (v := undef) (a' := ?_) #[true, true, true, true, true, true, true, true, true, true, true, true, true, true, true, true, true, true, true, true, true, true, true, true, true, true, false, false, false, false, false, false, false, false, false, false, false, false, false, false] rfl rfl (any_of HT_.out (by kernel_rfl)) (fun _ _ _ h => h) (Or.inr ⟨by rfl, rfl⟩) ?_ ?_
                rotate_left; (simp only [Act.put, List.setIfInBounds_toArray, List.set_cons_zero, List.set_cons_succ, i64_w, i32_w]; rfl)
                refine pure_ (i := 26) (N := some 127) (v := undef) (a' := ?_) #[true, true, true, true, true, true, true, true, true, true, true, true, true, true, true, true, true, true, true, true, true, true, true, true, true, true, true, false, false, false, false, false, false, false, false, false, false, false, false, false] rfl rfl (any_of HT_.out (by kernel_rfl)) (fun _ _ _ h => h) (Or.inr ⟨by rfl, rfl⟩) ?_ ?_
                rotate_left; (simp only [Act.put, List.setIfInBounds_toArray, List.set_cons_zero, List.set_cons_succ, i64_w, i32_w]; rfl)
                refine pure_ (i := 27) (N := some 128) (v := undef) (a' := ?_) #[true, true, true, true, true, true, true, true, true, true, true, true, true, true, true, true, true, true, true, true, true, true, true, true, true, true, true, true, false, false, false, false, false, false, false, false, false, false, false, false] rfl rfl (any_of HT_.out (by kernel_rfl)) (fun _ _ _ h => h) (Or.inr ⟨by rfl, rfl⟩) ?_ ?_
                rotate_left; (simp only [Act.put, List.setIfInBounds_toArray, List.set_cons_zero, List.set_cons_succ, i64_w, i32_w]; rfl)
                refine pure_ (i := 28) (N := some 129) (v := undef) (a' := ?_) #[true, true, true, true, true, true, true, true, true, true, true, true, true, true, true, true, true, true, true, true, true, true, true, true, true, true, true, true, true, false, false, false, false, false, false, false, false, false, false, false] rfl rfl (any_of HT_.out (by kernel_rfl)) (fun _ _ _ h => h) (Or.inr ⟨by rfl, rfl⟩) ?_ ?_
                rotate_left; (simp only [Act.put, List.setIfInBounds_toArray, List.set_cons_zero, List.set_cons_succ, i64_w, i32_w]; rfl)
                refine pure_ (i := 29) (N := some 130) (v := undef) (a' := ?_) #[true, true, true, true, true, true, true, true, true, true, true, true, true, true, true, true, true, true, true, true, true, true, true, true, true, true, true, true, true, true, false, false, false, false, false, false, false, false, false, false] rfl rfl (any_of HT_.out (by kernel_rfl)) (fun _ _ _ h => h) (Or.inr ⟨by rfl, rfl⟩) ?_ ?_
                rotate_left; (simp only [Act.put, List.setIfInBounds_toArray, List.set_cons_zero, List.set_cons_succ, i64_w, i32_w]; rfl)
                refine pure_ (i := 30) (N := some 131) (v := undef) (a' := ?_) #[true, true, true, true, true, true, true, true, true, true, true, true, true, true, true, true, true, true, true, true, true, true, true, true, true, true, true, true, true, true, true, false, false, false, false, false, false, false, false, false] rfl rfl (any_of HT_.out (by kernel_rfl)) (fun _ _ _ h => h) (Or.inr ⟨by rfl, rfl⟩) ?_ ?_
                rotate_left; (simp only [Act.put, List.setIfInBounds_toArray, List.set_cons_zero, List.set_cons_succ, i64_w, i32_w]; rfl)
                refine pure_ (i := 31) (N := some 132) (v := undef) (a' := ?_) #[true, true, true, true, true, true, true, true, true, true, true, true, true, true, true, true, true, true, true, true, true, true, true, true, true, true, true, true, true, true, true, true, false, false, false, false, false, false, false, false] rfl rfl (any_of HT_.out (by kernel_rfl)) (fun _ _ _ h => h) (Or.inr ⟨by rfl, rfl⟩) ?_ ?_
                rotate_left; (simp only [Act.put, List.setIfInBounds_toArray, List.set_cons_zero, List.set_cons_succ, i64_w, i32_w]; rfl)
                refine pure_ (i := 32) (N := some 133) (v := undef) (a' := ?_) #[true, true, true, true, true, true, true, true, true, true, true, true, true, true, true, true, true, true, true, true, true, true, true, true, true, true, true, true, true, true, true, true, true, false, false, false, false, false, false, false] rfl rfl (any_of HT_.out (by kernel_rfl)) (fun _ _ _ h => h) (Or.inr ⟨by rfl, rfl⟩) ?_ ?_
                rotate_left; (simp only [Act.put, List.setIfInBounds_toArray, List.set_cons_zero, List.set_cons_succ, i64_w, i32_w]; rfl)
                refine pure_ (i := 33) (N := some 134) (v := undef) (a' := ?_) #[true, true, true, true, true, true, true, true, true, true, true, true, true, true, true, true, true, true, true, true, true, true, true, true, true, true, true, true, true, true, true, true, true, true, false, false, false, false, false, false] rfl rfl (any_of HT_.out (by kernel_rfl)) (fun _ _ _ h => h) (Or.inr ⟨by rfl, rfl⟩) ?_ ?_
                rotate_left; (simp only [Act.put, List.setIfInBounds_toArray, List.set_cons_zero, List.set_cons_succ, i64_w, i32_w]; rfl)
                refine pure_ (i := 34) (N := some 135) (v := undef) (a' := ?_) #[true, true, true, true, true, true, true, true, true, true, true, true, true, true, true, true, true, true, true, true, true, true, true, true, true, true, true, true, true, true, true, true, true, true, true, false, false, false, false, false] rfl rfl (any_of HT_.out (by kernel_rfl)) (fun _ _ _ h => h) (Or.inr ⟨by rfl, rfl⟩) ?_ ?_
                rotate_left; (simp only [Act.put, List.setIfInBounds_toArray, List.set_cons_zero, List.set_cons_succ, i64_w, i32_w]; rfl)
                refine pure_ (i := 35) (N := some 136) (v := undef) (a' := ?_) #[true, true, true, true, true, true, true, true, true, true, true, true, true, true, true, true, true, true, true, true, true, true, true, true, true, true, true, true, true, true, true, true, true, true, true, true, false, false, false, false] rfl rfl (any_of HT_.out (by kernel_rfl)) (fun _ _ _ h => h) (Or.inr ⟨by rfl, rfl⟩) ?_ ?_
                rotate_left; (simp only [Act.put, List.setIfInBounds_toArray, List.set_cons_zero, List.set_cons_succ, i64_w, i32_w]; rfl)
                refine pure_ (i := 36) (N := some 137) (v := undef) (a' := ?_) #[true, true, true, true, true, true, true, true, true, true, true, true, true, true, true, true, true, true, true, true, true, true, true, true, true, true, true, true, true, true, true, true, true, true, true, true, true, false, false, false] rfl rfl (any_of HT_.out (by kernel_rfl)) (fun _ _ _ h => h) (Or.inr ⟨by rfl, rfl⟩) ?_ ?_
                rotate_left; (simp only [Act.put, List.setIfInBounds_toArray, List.set_cons_zero, List.set_cons_succ, i64_w, i32_w]; rfl)
                refine pure_ (i := 37) (N := some 138) (v := undef) (a' := ?_) #[true, true, true, true, true, true, true, true, true, true, true, true, true, true, true, true, true, true, true, true, true, true, true, true, true, true, true, true, true, true, true, true, true, true, true, true, true, true, false, false] rfl rfl (any_of HT_.out (by kernel_rfl)) (fun _ _ _ h => h) (Or.inr ⟨by rfl, rfl⟩) ?_ ?_
                rotate_left; (simp only [Act.put, List.setIfInBounds_toArray, List.set_cons_zero, List.set_cons_succ, i64_w, i32_w]; rfl)
                refine pure_ (i := 38) (N := some 139) (v := undef) (a' := ?_) #[true, true, true, true, true, true, true, true, true, true, true, true, true, true, true, true, true, true, true, true, true, true, true, true, true, true, true, true, true, true, true, true, true, true, true, true, true, true, true, false] rfl rfl (any_of HT_.out (by kernel_rfl)) (fun _ _ _ h => h) (Or.inr ⟨by rfl, rfl⟩) ?_ ?_
                rotate_left; (simp only [Act.put, List.setIfInBounds_toArray, List.set_cons_zero, List.set_cons_succ, i64_w, i32_w]; rfl)
                refine uP HT_ 39 (some 140) (lb 40 1099511627775) ?_
                refine done_ (done_of HT_.out (by kernel_rfl)) ?_
                try go_wp2
                go_roundg k5
                case measure => have := HJ4.out; have := HJ40.out; have := HJ50.out; have := HJ63.out; have := HK5.out; omega
                case rel => exact ⟨(wrap64 (x15_5 + 1)), rfl, H', ⟨by have := HJ4.out; have := HJ40.out; have := HJ50.out; have := HJ63.out; have := HK5.out; omega⟩, ⟨uS HO_13.out⟩, ⟨uK BK411.out⟩, ⟨uB HB.out⟩⟩
               ·rw [if_neg c73] at H
                have c73b0 : (x15_5 == a2) = false := beq_eq_false_iff_ne.mpr c73
                have c73b1 : (x15_5 != a2) = true := bne_iff_ne.mpr c73
                by_cases c76 : 0 ≤ x15_5
                ·rw [if_pos c76] at H
                 have c76b0 : decide (0 ≤ x15_5) = true := decide_eq_true c76
                 clear c76
                 by_cases c77 : ((rd_T39 t423 x15_5).f2) = 0
                 ·rw [if_pos c77] at H
                  have c77b0 : (((rd_T39 t423 x15_5).f2) == 0) = true := beq_iff_eq.mpr c77
                  have c77b1 : (((rd_T39 t423 x15_5).f2) != 0) = false := bne_eq_false_iff_eq.mpr c77
                  clear c77
                  by_cases c78 : ((rd_T39 t423 x15_5).f1) = 0
                  ·rw [if_pos c78] at H
                   have c78b0 : (((rd_T39 t423 x15_5).f1) == 0) = true := beq_iff_eq.mpr c78
                   have c78b1 : (((rd_T39 t423 x15_5).f1) != 0) = false := bne_eq_false_iff_eq.mpr c78
                   clear c78
                   obtain ⟨ji79, hji79⟩ : ∃ j_ : Int, (wrap64 (x15_5 * a0_3)) = j_ := ⟨_, rfl⟩
                   first | rw [hji79] at H | simp only [hji79] at H
                   have hji79w : (IntKind.i64.wrap (x15_5 * a0_3)) = ji79 := (i64_w _).trans hji79
                   by_cases c80 : 0 ≤ (ji79)
                   ·rw [if_pos c80] at H
                    have c80b0 := eq_true c80
                    have c80b1 : decide (0 ≤ (ji79)) = true := decide_eq_true c80
                    clear c80
                    by_cases c81 : (ji79) ≤ (wrap64 ((wrap64 (x15_5 + 1)) * a0_3))
                    ·rw [if_pos c81] at H
                     have c81b0 := eq_true c81
                     have c81b1 : decide ((ji79) ≤ (wrap64 ((wrap64 (x15_5 + 1)) * a0_3))) = true := decide_eq_true c81
                     by_cases c82 : (wrap64 ((wrap64 (x15_5 + 1)) * a0_3)) ≤ (l1.length : Int)
                     ·rw [if_pos c82] at H
                      have c82b0 := eq_true c82
                      have c82b1 : decide ((wrap64 ((wrap64 (x15_5 + 1)) * a0_3)) ≤ (l1.length : Int)) = true := decide_eq_true c82
                      by_cases c83 : (strOfNums ((rd_T39 t423 x15_5).f0)).toList = (strOfNums ((l1.take ((wrap64 ((wrap64 (x15_5 + 1)) * a0_3)) : Int).toNat).drop ((ji79) : Int).toNat)).toList
                      ·rw [if_pos c83] at H
                       have c83b0 : ((strOfNums ((rd_T39 t423 x15_5).f0)).toList == (strOfNums ((l1.take ((wrap64 ((wrap64 (x15_5 + 1)) * a0_3)) : Int).toNat).drop ((ji79) : Int).toNat)).toList) = true := beq_iff_eq.mpr c83
                       have c83b1 : ((strOfNums ((rd_T39 t423 x15_5).f0)).toList != (strOfNums ((l1.take ((wrap64 ((wrap64 (x15_5 + 1)) * a0_3)) : Int).toNat).drop ((ji79) : Int).toNat)).toList) = false := bne_eq_false_iff_eq.mpr c83
                       clear c83
                       have H' := Aside0.mk H
                       clear H
                       obtain ⟨Ao84, co84, eo84⟩ := Kd.S_slice HO_13.out
                       subst eo84
                       try go_wp2
                       replace HO_13 := uA (Kd.S_drew HO_13.out); replace BK411 := uA (blk_drew BK411.out); replace HB := uA (below_drew1 HB.out)
                       have p427 : 0 ≤ (x15_5 : Int) := of_decide_eq_true (by first | (with_reducible assumption) | assumption)
                       have q427 : x15_5 < (t423.length : Int) := of_decide_eq_true (by first | (with_reducible assumption) | assumption)
                       obtain ⟨ad427, A427_0, c427_0, e427, hx427_0, hx427_1, hx427_2, hl427_0, hi427_0⟩ := at_T39 (Kd.S_reads' HO_13.out).2.2 x15_5 p427 q427
                       cases e427
                       obtain ⟨ce427, hce427, hMe427, hcc427⟩ := Kd.S_get HO_13.out z39 x15_5 p427 (by first | exact q427 | exact of_decide_eq_true (by first | (with_reducible assumption) | assumption) | (have e_ := (Kd.S_reads' HO_13.out).1; omega))
                       obtain ⟨ve427_0, rfl, ge427_0⟩ := k39_openM hMe427
                       have hv427_0 := hcc427 0 _ rfl
                       rw [Nat.add_zero] at hv427_0
                       replace hv427_0 := Option.some.inj (hv427_0.symm.trans hx427_0)
                       rw [hv427_0] at ge427_0
                       have HL427_0 := Aside0.mk (show Kd.R (Kd.int .u8) 5 _ _ _ _ ((rd_T39 t423 x15_5).f0) from ge427_0)
                       clear hv427_0 ge427_0
                       clear hcc427 hce427
                       have HR427_0 := Aside0.mk hi427_0
                       have HC427_0 := Aside0.mk hl427_0
                       clear hi427_0 hl427_0
                       replace p427 := eq_true p427
                       replace q427 := eq_true q427
                       have p428 : 0 ≤ (x15_5 : Int) := of_decide_eq_true (by first | (with_reducible assumption) | assumption)
                       have q428 : x15_5 < (t423.length : Int) := of_decide_eq_true (by first | (with_reducible assumption) | assumption)
                       obtain ⟨ad428, A428_0, c428_0, e428, hx428_0, hx428_1, hx428_2, hl428_0, hi428_0⟩ := at_T39 (Kd.S_reads' HO_13.out).2.2 x15_5 p428 q428
                       obtain rfl : ad427 = ad428 := (by injection e428)
                       obtain ⟨ce428, hce428, hMe428, hcc428⟩ := Kd.S_get HO_13.out z39 x15_5 p428 (by first | exact q428 | exact of_decide_eq_true (by first | (with_reducible assumption) | assumption) | (have e_ := (Kd.S_reads' HO_13.out).1; omega))
                       obtain ⟨ve428_0, rfl, ge428_0⟩ := k39_openM hMe428
                       have hv428_0 := hcc428 0 _ rfl
                       rw [Nat.add_zero] at hv428_0
                       replace hv428_0 := Option.some.inj (hv428_0.symm.trans hx428_0)
                       rw [hv428_0] at ge428_0
                       have HL428_0 := Aside0.mk (show Kd.R (Kd.int .u8) 5 _ _ _ _ ((rd_T39 t423 x15_5).f0) from ge428_0)
                       clear hv428_0 ge428_0
                       clear hcc428 hce428
                       have HR428_0 := Aside0.mk hi428_0
                       have HC428_0 := Aside0.mk hl428_0
                       clear hi428_0 hl428_0
                       replace p428 := eq_true p428
                       replace q428 := eq_true q428
                       have ea_ := Option.some.inj (hx427_0.symm.trans hx428_0)
                       injection ea_ with ea_ en_ ec_
                       subst ea_
                       subst ec_
                       clear en_
                       have p429 : 0 ≤ (x15_5 : Int) := of_decide_eq_true (by first | (with_reducible assumption) | assumption)
                       have q429 : x15_5 < (t423.length : Int) := of_decide_eq_true (by first | (with_reducible assumption) | assumption)
                       obtain ⟨ad429, A429_0, c429_0, e429, hx429_0, hx429_1, hx429_2, hl429_0, hi429_0⟩ := at_T39 (Kd.S_reads' HO_13.out).2.2 x15_5 p429 q429
                       obtain rfl : ad427 = ad429 := (by injection e429)
                       obtain ⟨ce429, hce429, hMe429, hcc429⟩ := Kd.S_get HO_13.out z39 x15_5 p429 (by first | exact q429 | exact of_decide_eq_true (by first | (with_reducible assumption) | assumption) | (have e_ := (Kd.S_reads' HO_13.out).1; omega))
                       obtain ⟨ve429_0, rfl, ge429_0⟩ := k39_openM hMe429
                       have hv429_0 := hcc429 0 _ rfl
                       rw [Nat.add_zero] at hv429_0
                       replace hv429_0 := Option.some.inj (hv429_0.symm.trans hx429_0)
                       rw [hv429_0] at ge429_0
                       have HL429_0 := Aside0.mk (show Kd.R (Kd.int .u8) 5 _ _ _ _ ((rd_T39 t423 x15_5).f0) from ge429_0)
                       clear hv429_0 ge429_0
                       clear hcc429 hce429
                       have HR429_0 := Aside0.mk hi429_0
                       have HC429_0 := Aside0.mk hl429_0
                       clear hi429_0 hl429_0
                       replace p429 := eq_true p429
                       replace q429 := eq_true q429
                       have ea_ := Option.some.inj (hx427_0.symm.trans hx429_0)
                       injection ea_ with ea_ en_ ec_
                       subst ea_
                       subst ec_
                       clear en_
                       obtain ⟨i086, hi086, _, hsz86, _⟩ := info_parts info5
                       obtain ⟨A86, hcut86, hA86, hC86⟩ := print_mid_of (P := Try.prog) (Value.int .u8) 0 26 5 .i64 .i64 Try.underlying26 hi086 hsz86 A1 c1 l1 (ji79) (wrap64 ((wrap64 (x15_5 + 1)) * a0_3)) (of_decide_eq_true (by first | (with_reducible assumption) | assumption)) (by first | omega | exact of_decide_eq_true (by first | (with_reducible assumption) | assumption)) (of_decide_eq_true (by first | (with_reducible assumption) | assumption)) HC1.out
                       have HR430 := Aside0.mk (Kd.C_of_reads (h1 := fun _ => rfl) (hA86 _ (Kd.reads_of_C HR1.out)))
                       have HC430 := Aside0.mk hC86
                       clear hA86 hC86 hi086 hsz86
                       generalize hy86_ : ((l1.take ((wrap64 ((wrap64 (x15_5 + 1)) * a0_3)) : Int).toNat).drop ((ji79) : Int).toNat) = y86 at HR430 HC430 hcut86 c83b0 c83b1
                       have hcv87 := Kd.C_string (P := Try.prog) (A := A427_0) (c := c427_0) Try.underlying26 Try.underlying5 Try.underlying9 (by repeat (first | (with_reducible exact HR429_0.out) | (with_reducible refine Kd.C_alloc ?_ _) | (with_reducible refine Kd.C_drewN ?_ _) | (with_reducible refine Kd.C_drew ?_) | exact HR429_0.out))
                       have hcv88 := Kd.C_string (P := Try.prog) (A := A86) (c := (c1 - (ji79).toNat)) Try.underlying26 Try.underlying5 Try.underlying9 (Kd.C_below HR430.out HB.out)
                       refine start_ (n := 40) (S := fun w' => w'.cell? ⟨gb411, 0, none⟩ = some (.int .i64 a0_0) ∧ w'.cell? ⟨gb411, 1, none⟩ = some (.int .i64 a0_1) ∧ w'.cell? ⟨gb411, 2, none⟩ = some (.int .i64 a0_2) ∧ w'.cell? ⟨gb411, 3, none⟩ = some (.int .i64 a0_3) ∧ w'.cell? ⟨gb411, 4, none⟩ = some (.int .i64 a0_4) ∧ w'.cell? (ad427.add ((x15_5).toNat * 3)) = some (.slice A427_0 ((rd_T39 t423 x15_5).f0).length c427_0) ∧ w'.cell? ⟨(ad427.add ((x15_5).toNat * 3)).block, (ad427.add ((x15_5).toNat * 3)).off + 1, none⟩ = some (.int .i64 ((rd_T39 t423 x15_5).f1)) ∧ w'.cell? ⟨(ad427.add ((x15_5).toNat * 3)).block, (ad427.add ((x15_5).toNat * 3)).off + 2, none⟩ = some (.int .i64 ((rd_T39 t423 x15_5).f2)) ∧ w'.cell? (ad427.add ((x15_5).toNat * 3)) = some (.slice A427_0 ((rd_T39 t423 x15_5).f0).length c427_0) ∧ w'.cell? ⟨(ad427.add ((x15_5).toNat * 3)).block, (ad427.add ((x15_5).toNat * 3)).off + 1, none⟩ = some (.int .i64 ((rd_T39 t423 x15_5).f1)) ∧ w'.cell? ⟨(ad427.add ((x15_5).toNat * 3)).block, (ad427.add ((x15_5).toNat * 3)).off + 2, none⟩ = some (.int .i64 ((rd_T39 t423 x15_5).f2)) ∧ w'.cell? (ad427.add ((x15_5).toNat * 3)) = some (.slice A427_0 ((rd_T39 t423 x15_5).f0).length c427_0) ∧ w'.cell? ⟨(ad427.add ((x15_5).toNat * 3)).block, (ad427.add ((x15_5).toNat * 3)).off + 1, none⟩ = some (.int .i64 ((rd_T39 t423 x15_5).f1)) ∧ w'.cell? ⟨(ad427.add ((x15_5).toNat * 3)).block, (ad427.add ((x15_5).toNat * 3)).off + 2, none⟩ = some (.int .i64 ((rd_T39 t423 x15_5).f2)) ∧ Sem.run Try.prog (convert 26 9 (.slice A427_0 ((rd_T39 t423 x15_5).f0).length c427_0)) w' = .ok (.string (strOfNums (rd_T39 t423 x15_5).f0)) w' ∧ Sem.run Try.prog (convert 26 9 (.slice A86 y86.length (c1 - (ji79).toNat))) w' = .ok (.string (strOfNums y86)) w') (ds := []) #[false, false, false, false, false, false, false, false, false, false, false, false, false, false, false, false, false, false, false, false, false, false, false, false, false, false, false, false, false, false, false, false, false, false, false, false, false, false, false, false] (by kernel_rfl) rfl rfl ⟨(blk_cell BK411.out 0).trans rfl, (blk_cell BK411.out 1).trans rfl, (blk_cell BK411.out 2).trans rfl, (blk_cell BK411.out 3).trans rfl, (blk_cell BK411.out 4).trans rfl, hx427_0, hx427_1, hx427_2, hx428_0, hx428_1, hx428_2, hx429_0, hx429_1, hx429_2, (by first | exact Kd.C_string (P := Try.prog) Try.underlying26 Try.underlying5 Try.underlying9 (HR429_0.out) | exact Kd.C_string (P := Try.prog) Try.underlying26 Try.underlying5 Try.underlying9 (Kd.C_drew (HR429_0.out)) | exact Kd.C_string (P := Try.prog) Try.underlying26 Try.underlying5 Try.underlying9 (Kd.C_drewN (HR429_0.out) _)), (by first | exact Kd.C_string (P := Try.prog) Try.underlying26 Try.underlying5 Try.underlying9 (Kd.C_below HR430.out HB.out) | exact Kd.C_string (P := Try.prog) Try.underlying26 Try.underlying5 Try.underlying9 (Kd.C_drew (Kd.C_below HR430.out HB.out)) | exact Kd.C_string (P := Try.prog) Try.underlying26 Try.underlying5 Try.underlying9 (Kd.C_drewN (Kd.C_below HR430.out HB.out) _))⟩ (fun hHeld => ?_); refine with_tabW casematelaw06_EccSectors.tab17 casematelaw06_EccSectors.bits17 (fun HT_ HW_ => ?_)
                       generalize wr.drew = w85 at HO_13 BK411 HB HL427_0 HL428_0 HL429_0 HR427_0 HR428_0 HR429_0 HR430 hx427_0 hx427_1 hx427_2 hx428_0 hx428_1 hx428_2 hx429_0 hx429_1 hx429_2 hHeld ⊢
                       refine uP HT_ 0 (some 101) (lb 40 1) ?_
                       refine uP HT_ 1 (some 102) (lb 40 3) ?_
                       refine uP HT_ 2 (some 103) (lb 40 7) ?_
                       refine uP HT_ 3 (some 104) (lb 40 15) ?_
                       refine uP HT_ 4 (some 105) (lb 40 31) ?_
                       refine uP HT_ 5 (some 106) (lb 40 63) ?_
                       refine uP HT_ 6 (some 107) (lb 40 127) ?_
                       refine uP HT_ 7 (some 108) (lb 40 255) ?_
                       refine uT HT_ HW_ 8 (some 109) (lb 40 511) rfl hHeld ?_ (by rintro w' ⟨s0, s1, s2, s3, s4, s5, s6, s7, s8, s9, s10, s11, s12, s13, s14, s15⟩; go_simp; with_reducible rfl)
                       refine uP HT_ 9 (some 110) (lb 40 1023) ?_
                       refine uP HT_ 10 (some 111) (lb 40 2047) ?_
                       refine uP HT_ 11 (some 112) (lb 40 4095) ?_
                       refine uP HT_ 12 (some 113) (lb 40 8191) ?_
                       refine uP HT_ 13 (some 114) (lb 40 16383) ?_
                       refine uP HT_ 14 (some 115) (lb 40 32767) ?_
                       refine uT HT_ HW_ 15 (some 116) (lb 40 65535) rfl hHeld ?_ (by rintro w' ⟨s0, s1, s2, s3, s4, s5, s6, s7, s8, s9, s10, s11, s12, s13, s14, s15⟩; go_simp; with_reducible rfl)
                       refine uP HT_ 16 (some 117) (lb 40 131071) ?_
                       refine uP HT_ 17 (some 118) (lb 40 262143) ?_
                       refine uP HT_ 18 (some 119) (lb 40 524287) ?_
                       refine uP HT_ 19 (some 120) (lb 40 1048575) ?_
                       refine uP HT_ 20 (some 121) (lb 40 2097151) ?_
                       refine uP HT_ 21 (some 122) (lb 40 4194303) ?_
                       refine uP HT_ 22 (some 123) (lb 40 8388607) ?_
                       refine uP HT_ 25 (some 126) (lb 40 41943039) ?_
                       refine uP HT_ 26 (some 127) (lb 40 109051903) ?_
                       refine uP HT_ 27 (some 128) (lb 40 243269631) ?_
                       refine uP HT_ 30 (some 131) (lb 40 1317011455) ?_
                       refine uP HT_ 31 (some 132) (lb 40 3464495103) ?_
                       refine uP HT_ 32 (some 133) (lb 40 7759462399) ?_
                       refine uT HT_ HW_ 23 (some 124) (lb 40 7767851007) rfl hHeld ?_ (by rintro w' ⟨s0, s1, s2, s3, s4, s5, s6, s7, s8, s9, s10, s11, s12, s13, s14, s15⟩; go_simp; with_reducible rfl)
                       refine uT HT_ HW_ 24 (some 125) (lb 40 7784628223) rfl hHeld ?_ (by rintro w' ⟨s0, s1, s2, s3, s4, s5, s6, s7, s8, s9, s10, s11, s12, s13, s14, s15⟩; go_simp; with_reducible rfl)
                       refine uT HT_ HW_ 28 (some 129) (lb 40 8053063679) rfl hHeld ?_ (by rintro w' ⟨s0, s1, s2, s3, s4, s5, s6, s7, s8, s9, s10, s11, s12, s13, s14, s15⟩; go_simp; with_reducible rfl)
                       refine uP HT_ 29 (some 130) (lb 40 8589934591) ?_
                       refine uT HT_ HW_ 33 (some 134) (lb 40 17179869183) rfl hHeld ?_ (by rintro w' ⟨s0, s1, s2, s3, s4, s5, s6, s7, s8, s9, s10, s11, s12, s13, s14, s15⟩; go_simp; with_reducible rfl)
                       refine uP HT_ 34 (some 135) (lb 40 34359738367) ?_
                       refine uP HT_ 35 (some 136) (lb 40 68719476735) ?_
                       refine uT HT_ HW_ 36 (some 137) (lb 40 137438953471) rfl hHeld ?_ (by rintro w' ⟨s0, s1, s2, s3, s4, s5, s6, s7, s8, s9, s10, s11, s12, s13, s14, s15⟩; go_simp; with_reducible rfl)
                       refine uP HT_ 37 (some 138) (lb 40 274877906943) ?_
                       refine uP HT_ 38 (some 139) (lb 40 549755813887) ?_
                       refine uP HT_ 39 (some 140) (lb 40 1099511627775) ?_
                       refine done_ (done_of HT_.out (by kernel_rfl)) ?_
                       try go_wp2
                       go_roundg k5
                       case measure => have := HJ4.out; have := HJ40.out; have := HJ50.out; have := HJ63.out; have := HK5.out; omega
                       case rel => exact ⟨(wrap64 (x15_5 + 1)), rfl, H', ⟨by have := HJ4.out; have := HJ40.out; have := HJ50.out; have := HJ63.out; have := HK5.out; omega⟩, ⟨uS HO_13.out⟩, ⟨uK BK411.out⟩, ⟨uB HB.out⟩⟩
                      ·rw [if_neg c83] at H
                       (try rw [hr_.out] at H)
                       cases H
                     ·rw [if_neg c82] at H
                      cases H
                    ·rw [if_neg c81] at H
                     cases H
                   ·rw [if_neg c80] at H
                    cases H
                  ·rw [if_neg c78] at H
                   (try rw [hr_.out] at H)
                   cases H
                 ·rw [if_neg c77] at H
                  (try rw [hr_.out] at H)
                  cases H
                ·rw [if_neg c76] at H
                 cases H
              ·rw [if_neg c72] at H
               have c72b0 : decide (x15_5 < (t423.length : Int)) = false := decide_eq_false c72
               clear c72
               obtain ⟨t431, A100, H⟩ := uO H
               obtain rfl := Option.some.inj H
               obtain ⟨Ao101, co101, eo101⟩ := Kd.S_slice HO_13.out
               subst eo101
               go_wp2_with (first | ((with_reducible refine gate_callee (f := 16) rfl ?_); refine uG (some 141) Try.func16 #[] ?_; (with_reducible refine (casematelaw06_awake.calls k5  t431 _ A100.out).mono ?_); rintro e w102 ⟨rfl, hb⟩; refine ⟨_, rfl, ?_⟩; replace HO_13 := uSb HO_13 hb; replace BK411 := uKb BK411 hb; replace HB := uBb HB hb))
               go_ret
               exact ⟨rfl, uB HB.out⟩
def casemateref01_At.l0 : Nat → Int → Int → Int → Option (Int)
 | 0, _, _, _ => none
 | k + 1, x1, x5, x6 => if x6 < (Int.tmod x1 8) then (casemateref01_At.l0 k x1 (wrap64 (Int.tdiv x5 2)) (wrap64 (x6 + 1))) else (some (Int.tmod x5 2))
def casemateref01_At.f (k : Nat) (l0 : List Int) (a1 : Int) : Option (Int) := if 0 ≤ (wrap64 (Int.tdiv a1 8)) then (if (wrap64 (Int.tdiv a1 8)) < (l0.length : Int) then (casemateref01_At.l0 k a1 (wrap64 (rd l0 (wrap64 (Int.tdiv a1 8)))) 0) else (none)) else (none)
def casemateref01_All.l0 : Nat → List Int → List Int → Int → Option (List Int)
 | 0, _, _, _ => none
 | k + 1, x0, x3, x4 => if x4 < (wrap64 (8 * (x0.length : Int))) then ((casemateref01_At.f k x0 x4).bind fun t433 => (if x3.length < 17592186044416 then (casemateref01_All.l0 k x0 (x3 ++ [t433]) (wrap64 (x4 + 1))) else (none))) else (some x3)
def casemateref01_All.f (k : Nat) (l0 : List Int) : Option (List Int) := casemateref01_All.l0 k l0 ([] : List Int) 0
def casemateref05_Word.l0 : Nat → Int → List Int → List Int → List Int → Int → Option (List Int)
 | 0, _, _, _, _, _ => none
 | k + 1, x0, x1, x2, x7, x8 => if x8 < (wrap64 (13 * x0)) then ((casemateref01_At.f k x2 x8).bind fun t437 => (if x7.length < 17592186044416 then (casemateref05_Word.l0 k x0 x1 x2 (x7 ++ [t437]) (wrap64 (x8 + 1))) else (none))) else ((casemateref01_All.f k x1).bind fun t441 => (if x7.length + t441.length < 17592186044416 then (some (x7 ++ t441)) else (none)))
def casemateref05_Word.f (k : Nat) (a0 : Int) (l1 : List Int) (l2 : List Int) : Option (List Int) := casemateref05_Word.l0 k a0 l1 l2 ([] : List Int) 0
def casemateref04_Degree.l0 : Nat → List Int → Int → Option (Int)
 | 0, _, _ => none
 | k + 1, x0, x3 => if x3 ≥ 0 then (if 0 ≤ x3 then (if x3 < (x0.length : Int) then (if (rd x0 x3) = 0 then (casemateref04_Degree.l0 k x0 (wrap64 (x3 - 1))) else (some x3)) else (none)) else (none)) else (some x3)
def casemateref04_Degree.f (k : Nat) (l0 : List Int) : Option (Int) := casemateref04_Degree.l0 k l0 (wrap64 ((l0.length : Int) - 1))
mutual
def casemateref04_Mod.l0 : Nat → List Int → List Int → Int → Int → Option (List Int)
 | 0, _, _, _, _ => none
 | k + 1, x1, x5, x6, x7 => if x7 ≥ x6 then (casemateref04_Mod.l1 k x1 x5 x6 x7 0) else (some x5)
def casemateref04_Mod.l1 : Nat → List Int → List Int → Int → Int → Int → Option (List Int)
 | 0, _, _, _, _, _ => none
 | k + 1, x1, x5, x6, x7, x8 => if x8 ≤ x6 then (if 0 ≤ (wrap64 ((wrap64 (x7 - x6)) + x8)) then (if (wrap64 ((wrap64 (x7 - x6)) + x8)) < (x5.length : Int) then (if 0 ≤ x8 then (if x8 < (x1.length : Int) then (casemateref04_Mod.l1 k x1 (x5.set ((wrap64 ((wrap64 (x7 - x6)) + x8)) : Int).toNat (Int.tmod (wrap64 ((rd x5 (wrap64 ((wrap64 (x7 - x6)) + x8))) + (rd x1 x8))) 2)) x6 x7 (wrap64 (x8 + 1))) else (none)) else (none)) else (none)) else (none)) else ((casemateref04_Degree.f k x5).bind fun t456 => (casemateref04_Mod.l0 k x1 x5 x6 t456))
end
def casemateref04_Mod.f (k : Nat) (l0 : List Int) (l1 : List Int) : Option (List Int) := if ([] : List Int).length + l0.length < 17592186044416 then ((some (([] : List Int) ++ l0 : List Int)).bind fun y448 => ((casemateref04_Degree.f k l1).bind fun t451 => ((casemateref04_Degree.f k y448).bind fun t452 => (casemateref04_Mod.l0 k l1 y448 t451 t452)))) else (none)
def casemateref04_Mod.T10 : Bool × List (List Nat × List Nat) := (true, [([], []), ([], []), ([], []), ([1, 2], [1, 2]), ([], []), ([3, 4], [3, 4]), ([], []), ([], []), ([], []), ([7, 8], [7, 8]), ([], []), ([9, 10], [9, 10]), ([6, 11], [6, 11]), ([12], [12]), ([], []), ([], []), ([14, 15], [14, 15]), ([16], [16]), ([13, 17], [13, 17]), ([18], [18]), ([0, 5, 0, 1, 2, 3, 4, 5, 6, 7, 8, 9, 10, 11, 12, 13, 14, 15, 16, 17, 18, 19], [0, 5]), ([20, 19, 0, 1, 2, 3, 4, 5, 6, 7, 8, 9, 10, 11, 12, 13, 14, 15, 16, 17, 18, 19], [19, 20])])
def casemateref04_Mod.B10 : List Nat := [0, 0, 0, 6, 0, 30, 0, 0, 0, 384, 0, 1920, 4032, 8128, 0, 0, 49152, 114688, 262080, 524224, 1048575, 2097151]
mutual
def casemateref02_Sum.l0 : Nat → Int → Int → Int → Int → Option (Int)
 | 0, _, _, _, _ => none
 | k + 1, x0, x1, x5, x6 => if x0 > 0 then (casemateref02_Sum.j1 k x0 x1 x5 x6 true) else (casemateref02_Sum.j1 k x0 x1 x5 x6 (decide (x1 > 0)))
def casemateref02_Sum.j1 : Nat → Int → Int → Int → Int → Bool → Option (Int)
 | 0, _, _, _, _, _ => none
 | k + 1, x0, x1, x5, x6, x12 => if x12 = true then (if (Int.tmod x0 2) = (Int.tmod x1 2) then (casemateref02_Sum.l0 k (wrap64 (Int.tdiv x0 2)) (wrap64 (Int.tdiv x1 2)) x5 (wrap64 (2 * x6))) else (casemateref02_Sum.l0 k (wrap64 (Int.tdiv x0 2)) (wrap64 (Int.tdiv x1 2)) (wrap64 (x5 + x6)) (wrap64 (2 * x6)))) else (some x5)
end
def casemateref02_Sum.f (k : Nat) (a0 : Int) (a1 : Int) : Option (Int) := casemateref02_Sum.l0 k a0 a1 0 1
def casemateref02_Mul.l0 : Nat → Int → Int → Int → Option (Int)
 | 0, _, _, _ => none
 | k + 1, x0, x1, x5 => if x1 > 0 then (if (Int.tmod x1 2) = 1 then ((casemateref02_Sum.f k x5 x0).bind fun t457 => (if (wrap64 (2 * x0)) ≥ 8192 then ((casemateref02_Sum.f k (wrap64 (2 * x0)) 8219).bind fun t458 => (casemateref02_Mul.l0 k t458 (wrap64 (Int.tdiv x1 2)) t457)) else (casemateref02_Mul.l0 k (wrap64 (2 * x0)) (wrap64 (Int.tdiv x1 2)) t457))) else (if (wrap64 (2 * x0)) ≥ 8192 then ((casemateref02_Sum.f k (wrap64 (2 * x0)) 8219).bind fun t459 => (casemateref02_Mul.l0 k t459 (wrap64 (Int.tdiv x1 2)) x5)) else (casemateref02_Mul.l0 k (wrap64 (2 * x0)) (wrap64 (Int.tdiv x1 2)) x5))) else (some x5)
def casemateref02_Mul.f (k : Nat) (a0 : Int) (a1 : Int) : Option (Int) := casemateref02_Mul.l0 k a0 a1 0
def casemateref02_Pow.l0 : Nat → Int → Int → Int → Option (Int)
 | 0, _, _, _ => none
 | k + 1, x0, x1, x5 => if x1 > 0 then (if (Int.tmod x1 2) = 1 then ((casemateref02_Mul.f k x5 x0).bind fun t460 => ((casemateref02_Mul.f k x0 x0).bind fun t461 => (casemateref02_Pow.l0 k t461 (wrap64 (Int.tdiv x1 2)) t460))) else ((casemateref02_Mul.f k x0 x0).bind fun t462 => (casemateref02_Pow.l0 k t462 (wrap64 (Int.tdiv x1 2)) x5))) else (some x5)
def casemateref02_Pow.f (k : Nat) (a0 : Int) (a1 : Int) : Option (Int) := casemateref02_Pow.l0 k a0 a1 1
def casemateref02_Exp.f (k : Nat) (a0 : Int) : Option (Int) := if (Int.tmod a0 8191) < 0 then ((casemateref02_Pow.f k 2 (wrap64 ((Int.tmod a0 8191) + 8191))).bind fun t463 => (some t463)) else ((casemateref02_Pow.f k 2 (Int.tmod a0 8191)).bind fun t464 => (some t464))
mutual
def casemateref04_Mul.l0 : Nat → List Int → List Int → List Int → Int → Option (List Int)
 | 0, _, _, _, _ => none
 | k + 1, x0, x1, x5, x6 => if x6 < (x0.length : Int) then (casemateref04_Mul.l1 k x0 x1 x5 x6 0) else (some x5)
def casemateref04_Mul.l1 : Nat → List Int → List Int → List Int → Int → Int → Option (List Int)
 | 0, _, _, _, _, _ => none
 | k + 1, x0, x1, x5, x6, x7 => if x7 < (x1.length : Int) then (if 0 ≤ (wrap64 (x6 + x7)) then (if (wrap64 (x6 + x7)) < (x5.length : Int) then (if 0 ≤ x6 then (if x6 < (x0.length : Int) then (if 0 ≤ x7 then (casemateref04_Mul.l1 k x0 x1 (x5.set ((wrap64 (x6 + x7)) : Int).toNat (Int.tmod (wrap64 ((rd x5 (wrap64 (x6 + x7))) + (wrap64 ((rd x0 x6) * (rd x1 x7))))) 2)) x6 (wrap64 (x7 + 1))) else (none)) else (none)) else (none)) else (none)) else (none)) else (casemateref04_Mul.l0 k x0 x1 x5 (wrap64 (x6 + 1)))
end
def casemateref04_Mul.f (k : Nat) (l0 : List Int) (l1 : List Int) : Option (List Int) := if 0 ≤ (wrap64 ((l0.length : Int) + (l1.length : Int))) then (if (wrap64 ((l0.length : Int) + (l1.length : Int)) : Int).toNat ≤ 35184372088832 then (casemateref04_Mul.l0 k l0 l1 (List.replicate (wrap64 ((l0.length : Int) + (l1.length : Int)) : Int).toNat 0) 0) else (none)) else (none)
def casemateref04_Mul.T8 : Bool × List (List Nat × List Nat) := (true, [([], []), ([], []), ([], []), ([1, 2], [1, 2]), ([], []), ([], []), ([], []), ([5, 6], [5, 6]), ([4, 7], [4, 7]), ([8], [8]), ([], []), ([], []), ([10, 11], [10, 11]), ([12], [12]), ([], []), ([], []), ([14, 15], [14, 15]), ([16], [16]), ([13, 17], [13, 17]), ([9, 18], [9, 18]), ([19], [19]), ([0, 3, 0, 1, 2, 3, 4, 5, 6, 7, 8, 9, 10, 11, 12, 13, 14, 15, 16, 17, 18, 19, 20], [0, 3]), ([21, 20, 0, 1, 2, 3, 4, 5, 6, 7, 8, 9, 10, 11, 12, 13, 14, 15, 16, 17, 18, 19, 20], [20, 21])])
def casemateref04_Mul.B8 : List Nat := [0, 0, 0, 6, 0, 0, 0, 96, 240, 496, 0, 0, 3072, 7168, 0, 0, 49152, 114688, 261120, 524272, 1048560, 2097151, 4194303]
mutual
def casemateref05_generator.l0 : Nat → Int → List Int → Int → Option (List Int)
 | 0, _, _, _ => none
 | k + 1, x0, x3, x4 => if x4 < (wrap64 (2 * x0)) then ((casemateref02_Exp.f k x4).bind fun t478 => (casemateref05_generator.l1 k x0 x3 x4 (([1] : List Int)) t478 0)) else (some x3)
def casemateref05_generator.l1 : Nat → Int → List Int → Int → List Int → Int → Int → Option (List Int)
 | 0, _, _, _, _, _, _ => none
 | k + 1, x0, x3, x4, x5, x6, x7 => if x7 < 13 then (if 0 ≤ (wrap64 ((x5.length : Int) + 1)) then (if (wrap64 ((x5.length : Int) + 1) : Int).toNat ≤ 35184372088832 then (casemateref05_generator.l2 k x0 x3 x4 x5 x6 x7 (List.replicate (wrap64 ((x5.length : Int) + 1) : Int).toNat 0) 0) else (none)) else (none)) else ((casemateref04_Mul.f k x3 x5).bind fun t479 => (casemateref05_generator.l0 k x0 t479 (wrap64 (x4 + 2))))
def casemateref05_generator.l2 : Nat → Int → List Int → Int → List Int → Int → Int → List Int → Int → Option (List Int)
 | 0, _, _, _, _, _, _, _, _ => none
 | k + 1, x0, x3, x4, x5, x6, x7, x8, x9 => if x9 < (x5.length : Int) then (if 0 ≤ x9 then (if x9 < (x8.length : Int) then ((casemateref02_Mul.f k (rd x5 x9) x6).bind fun t487 => ((casemateref02_Sum.f k (rd x8 x9) t487).bind fun t488 => ((some (x8.set (x9 : Int).toNat t488 : List Int)).bind fun y489 => (if 0 ≤ (wrap64 (x9 + 1)) then (if (wrap64 (x9 + 1)) < (x8.length : Int) then ((casemateref02_Sum.f k (rd y489 (wrap64 (x9 + 1))) (rd x5 x9)).bind fun t492 => (casemateref05_generator.l2 k x0 x3 x4 x5 x6 x7 (y489.set ((wrap64 (x9 + 1)) : Int).toNat t492) (wrap64 (x9 + 1)))) else (none)) else (none))))) else (none)) else (none)) else ((casemateref02_Mul.f k x6 x6).bind fun t494 => (casemateref05_generator.l1 k x0 x3 x4 x8 t494 (wrap64 (x7 + 1))))
end
def casemateref05_generator.f (k : Nat) (a0 : Int) : Option (List Int) := casemateref05_generator.l0 k a0 (([1] : List Int)) 1
def casemateref05_generator.T14 : Bool × List (List Nat × List Nat) := (true, [([], []), ([], []), ([], []), ([], []), ([2, 3], [2, 3]), ([4], [4]), ([], []), ([], []), ([6, 7], [6, 7]), ([8], [8]), ([], []), ([9, 10], [9, 10]), ([5, 11, 11], [5, 11]), ([0, 1, 0, 1, 2, 3, 4, 5, 6, 7, 8, 9, 10, 11, 12], [0, 1]), ([13, 12, 12, 0, 1, 2, 3, 4, 5, 6, 7, 8, 9, 10, 11, 12], [12, 13])])
def casemateref05_generator.B14 : List Nat := [0, 0, 0, 0, 12, 28, 0, 0, 192, 448, 0, 1984, 4092, 8191, 16383]
def casemateref05_generator.T15 : Bool × List (List Nat × List Nat) := (true, [([], []), ([], []), ([1], [1]), ([], []), ([], []), ([4], [4]), ([3, 5], [3, 5]), ([6], [6]), ([], []), ([], []), ([8, 9], [8, 9]), ([10], [10]), ([7, 11], [7, 11]), ([0, 2, 0, 1, 2, 3, 4, 5, 6, 7, 8, 9, 10, 11, 12], [0, 2]), ([13, 12, 12, 0, 1, 2, 3, 4, 5, 6, 7, 8, 9, 10, 11, 12], [12, 13])])
def casemateref05_generator.B15 : List Nat := [0, 0, 2, 0, 0, 16, 56, 120, 0, 0, 768, 1792, 4088, 8191, 16383]
def casemateref05_padded.l0 : Nat → List Int → Int → Option (List Int)
 | 0, _, _ => none
 | k + 1, x0, x1 => if (x0.length : Int) < x1 then (if x0.length < 140737488355328 then (casemateref05_padded.l0 k (x0 ++ [0]) x1) else (none)) else (some x0)
def casemateref05_padded.f (k : Nat) (l0 : List Int) (a1 : Int) : Option (List Int) := casemateref05_padded.l0 k l0 a1
mutual
def casemateref01_Put.l0 : Nat → List Int → List Int → Int → Option (List Int)
 | 0, _, _, _ => none
 | k + 1, x0, x3, x4 => if x4 < (x0.length : Int) then (casemateref01_Put.l1 k x0 x3 x4 1 0) else (some x3)
def casemateref01_Put.l1 : Nat → List Int → List Int → Int → Int → Int → Option (List Int)
 | 0, _, _, _, _, _ => none
 | k + 1, x0, x3, x4, x5, x6 => if x6 < (Int.tmod x4 8) then (casemateref01_Put.l1 k x0 x3 x4 (wrap64 (2 * x5)) (wrap64 (x6 + 1))) else (if 0 ≤ (wrap64 (Int.tdiv x4 8)) then (if (wrap64 (Int.tdiv x4 8)) < (x3.length : Int) then (if 0 ≤ x4 then (if x4 < (x0.length : Int) then (casemateref01_Put.l0 k x0 (x3.set ((wrap64 (Int.tdiv x4 8)) : Int).toNat (((rd x3 (wrap64 (Int.tdiv x4 8))) + ((wrap64 (x5 * (rd x0 x4))) % 256)) % 256)) (wrap64 (x4 + 1))) else (none)) else (none)) else (none)) else (none))
end
def casemateref01_Put.f (k : Nat) (l0 : List Int) : Option (List Int) := if 0 ≤ (wrap64 (Int.tdiv (wrap64 ((l0.length : Int) + 7)) 8)) then (if (wrap64 (Int.tdiv (wrap64 ((l0.length : Int) + 7)) 8) : Int).toNat ≤ 281474976710656 then (casemateref01_Put.l0 k l0 (List.replicate (wrap64 (Int.tdiv (wrap64 ((l0.length : Int) + 7)) 8) : Int).toNat 0) 0) else (none)) else (none)
def casemateref01_Put.T10 : Bool × List (List Nat × List Nat) := (true, [([], []), ([], []), ([1], [1]), ([], []), ([], []), ([4], [4]), ([3, 5], [3, 5]), ([6], [6]), ([], []), ([], []), ([], []), ([9, 10], [9, 10]), ([11], [11]), ([8, 12], [8, 12]), ([13], [13]), ([7, 14], [7, 14]), ([0, 2, 0, 1, 2, 3, 4, 5, 6, 7, 8, 9, 10, 11, 12, 13, 14, 15], [0, 2]), ([16, 15, 0, 1, 2, 3, 4, 5, 6, 7, 8, 9, 10, 11, 12, 13, 14, 15], [15, 16])])
def casemateref01_Put.B10 : List Nat := [0, 0, 2, 0, 0, 16, 56, 120, 0, 0, 0, 1536, 3584, 7936, 16128, 32760, 65535, 131071]
def casemateref05_Encode.f (k : Nat) (a0 : Int) (l1 : List Int) : Option (List Int) := (casemateref05_Bytes.f a0).bind fun t504 => (if 0 ≤ t504 then (if (t504 : Int).toNat ≤ 281474976710656 then ((casemateref05_Word.f k a0 l1 (List.replicate (t504 : Int).toNat 0)).bind fun t508 => ((casemateref05_generator.f k a0).bind fun t511 => ((casemateref04_Mod.f k t508 t511).bind fun t514 => (if 0 ≤ (wrap64 (13 * a0)) then (if (wrap64 (13 * a0)) ≤ (t514.length : Int) then ((casemateref01_Put.f k (t514.take ((wrap64 (13 * a0)) : Int).toNat)).bind fun t521 => ((casemateref05_Bytes.f a0).bind fun t524 => ((casemateref05_padded.f k t521 t524).bind fun t525 => (some t525)))) else (none)) else (none))))) else (none)) else (none))
def casemateref06_Pack.l0 : Nat → List Int → List Int → Int → Int → Int → Int → Int → Int → Option (List Int)
 | 0, _, _, _, _, _, _, _, _ => none
 | k + 1, x1, x5, x6, x529000, x529001, x529002, x529003, x529004 => if x6 < x529002 then (if 0 ≤ (wrap64 (x6 * x529003)) then (if (wrap64 (x6 * x529003)) ≤ (wrap64 ((wrap64 (x6 + 1)) * x529003)) then (if (wrap64 ((wrap64 (x6 + 1)) * x529003)) ≤ (x1.length : Int) then (if x5.length + ((x1.take ((wrap64 ((wrap64 (x6 + 1)) * x529003)) : Int).toNat).drop ((wrap64 (x6 * x529003)) : Int).toNat).length < 140737488355328 then ((some (x5 ++ ((x1.take ((wrap64 ((wrap64 (x6 + 1)) * x529003)) : Int).toNat).drop ((wrap64 (x6 * x529003)) : Int).toNat) : List Int)).bind fun y530 => ((casemateref05_Encode.f k x529004 ((x1.take ((wrap64 ((wrap64 (x6 + 1)) * x529003)) : Int).toNat).drop ((wrap64 (x6 * x529003)) : Int).toNat)).bind fun t533 => (if y530.length + t533.length < 140737488355328 then (casemateref06_Pack.l0 k x1 (y530 ++ t533) (wrap64 (x6 + 1)) x529000 x529001 x529002 x529003 x529004) else (none)))) else (none)) else (none)) else (none)) else (none)) else (if x5.length < 140737488355328 then (some (x5 ++ [0])) else (none))
def casemateref06_Pack.f (k : Nat) (a0_0 : Int) (a0_1 : Int) (a0_2 : Int) (a0_3 : Int) (a0_4 : Int) (l1 : List Int) : Option (List Int) := casemateref06_Pack.l0 k l1 ([] : List Int) 0 a0_0 a0_1 a0_2 a0_3 a0_4
def casemateref06_sector.f (a0_0 : Int) (a0_1 : Int) (a0_2 : Int) (a0_3 : Int) (a0_4 : Int) (l1 : List Int) (a2 : Int) : Option (List Int) := (casemateref06_Whole.f a0_0 a0_1 a0_2 a0_3 a0_4).bind fun t => if 0 ≤ wrap64 (a2 * t) then (if wrap64 (a2 * t) ≤ wrap64 (wrap64 (a2 + 1) * t) then (if wrap64 (wrap64 (a2 + 1) * t) ≤ (l1.length : Int) then some ((l1.take (wrap64 (wrap64 (a2 + 1) * t) : Int).toNat).drop (wrap64 (a2 * t) : Int).toNat) else none) else none) else none
mutual
def casemateref06_Marked.l0 : Nat → List Int → Int → Int → Int → Int → Int → Int → Option (Int)
 | 0, _, _, _, _, _, _, _ => none
 | k + 1, x1, x6, x569000, x569001, x569002, x569003, x569004 => if x6 < x569002 then ((casemateref06_sector.f x569000 x569001 x569002 x569003 x569004 x1 x6).bind fun t570 => ((casemateref01_All.f k t570).bind fun t573 => (casemateref06_Marked.l1 k x1 x6 t573 0 0 x569000 x569001 x569002 x569003 x569004))) else (some 61)
def casemateref06_Marked.l1 : Nat → List Int → Int → List Int → Int → Int → Int → Int → Int → Int → Int → Option (Int)
 | 0, _, _, _, _, _, _, _, _, _, _ => none
 | k + 1, x1, x6, x7, x8, x9, x569000, x569001, x569002, x569003, x569004 => if x9 < (x7.length : Int) then (if 0 ≤ x9 then (casemateref06_Marked.l1 k x1 x6 x7 (wrap64 ((wrap64 (x8 + 1)) - (rd x7 x9))) (wrap64 (x9 + 1)) x569000 x569001 x569002 x569003 x569004) else (none)) else (if x8 > x569004 then (some 60) else (casemateref06_Marked.l0 k x1 (wrap64 (x6 + 1)) x569000 x569001 x569002 x569003 x569004))
end
def casemateref06_Marked.f (k : Nat) (a0_0 : Int) (a0_1 : Int) (a0_2 : Int) (a0_3 : Int) (a0_4 : Int) (l1 : List Int) : Option (Int) := if 0 ≤ (wrap64 ((l1.length : Int) - 1)) then (if (wrap64 ((l1.length : Int) - 1)) < (l1.length : Int) then (if (rd l1 (wrap64 ((l1.length : Int) - 1))) = 0 then (some 0) else (if (rd l1 (wrap64 ((l1.length : Int) - 1))) = 255 then (casemateref06_Marked.l0 k l1 0 a0_0 a0_1 a0_2 a0_3 a0_4) else (some 60))) else (none)) else (none)
def casemateref05_Apart.l0 : Nat → List Int → List Int → Int → Int → Option (Int)
 | 0, _, _, _, _ => none
 | k + 1, x0, x1, x5, x6 => if x6 < (x0.length : Int) then (if 0 ≤ x6 then (if x6 < (x1.length : Int) then (if (rd x0 x6) = (rd x1 x6) then (casemateref05_Apart.l0 k x0 x1 x5 (wrap64 (x6 + 1))) else (casemateref05_Apart.l0 k x0 x1 (wrap64 (x5 + 1)) (wrap64 (x6 + 1)))) else (none)) else (none)) else (some x5)
def casemateref05_Apart.f (k : Nat) (l0 : List Int) (l1 : List Int) : Option (Int) := casemateref05_Apart.l0 k l0 l1 0 0
end Go.Proofs.Ytfpdloccmneabaa.P

/- What Go functions of the translation come to, as plain functions, and that their calls come to just that. No condition but that the plain function answers. (Written by a program of this session.) -/
import Derived.Test.YtbaiildpabdlpaaPx0
import Derived.Test.YtbaiildpabdlpaaPx1
import Derived.Test.YtbaiildpabdlpaaPx3
namespace Go.Proofs.Ytbaiildpabdlpaa.P
open Go.RowKit Go.Proofs.YtbaiildpabdlpaaW.PrintWords Go.Proofs.YtbaiildpabdlpaaW.PrintLast Go.Proofs.YtbaiildpabdlpaaW.PrintMore
attribute [local go_sem] max2_int min2_int max_two min_two max_three min_three max_four min_four   -- for this text's walks alone
set_option linter.unusedVariables false
set_option linter.unusedSimpArgs false
def bits_Len8.f (a0 : Int) : Option Int := if 0 ≤ a0 then (if a0 ≤ 255 then some ((Lib.bitLen a0.toNat : Nat) : Int) else none) else none
theorem bits_Len8.calls (a0 : Int) (r : Int) (w : World) (h : bits_Len8.f a0 = some r) :
    Calls Try.prog 66 #[.int .u8 a0] w fun e w' => e = .returned (.int .i64 r) ∧ Drawn0 w w' := by
  unfold bits_Len8.f at h
  by_cases h0 : 0 ≤ a0
  · rw [if_pos h0] at h
    by_cases h1 : a0 ≤ 255
    · rw [if_pos h1] at h
      obtain rfl := Option.some.inj h
      have hw : wrap64 (Lib.len8 a0) = ((Lib.bitLen a0.toNat : Nat) : Int) := by unfold wrap64; exact Lib.len8_int a0 h0 h1
      rw [← hw]
      clear hw
      clear h
      go_enter Try.func66, Try.ntmps66
      go_wp2
      go_ret
      refine ⟨?_, Drawn0.refl _⟩
      show Ending.returned (Value.int .i64 (wrap64 (Lib.len8 a0))) = _
      rfl
    · rw [if_neg h1] at h; exact absurd h (by simp)
  · rw [if_neg h0] at h; exact absurd h (by simp)
def bpoly_Degree.f (k : Nat) (l0 : List Int) : Option (Int) := (bpoly_norm.f k l0).bind fun t152 => (if (t152.length : Int) = 0 then (some (-1)) else (if 0 ≤ (wrap64 ((t152.length : Int) - 1)) then (if (wrap64 ((t152.length : Int) - 1)) < (t152.length : Int) then ((bits_Len8.f (rd t152 (wrap64 ((t152.length : Int) - 1)))).bind fun t156 => (some (wrap64 ((wrap64 ((wrap64 ((wrap64 (8 * (t152.length : Int))) - 8)) + t156)) - 1)))) else (none)) else (none)))
theorem bpoly_Degree.mono : ∀ a0 k, LeO (bpoly_Degree.f k a0) (bpoly_Degree.f (k + 1) a0) := by
  intro a0 k
  unfold bpoly_Degree.f
  repeat' first
      | (with_reducible exact bpoly_norm.mono _ _)
      | (with_reducible exact LeO.refl _)
      | (with_reducible exact LeO.none _)
      | (with_reducible refine LeO.ite ?_ ?_)
      | (with_reducible refine LeO.bind ?_ (fun _ => ?_))
      | exact bpoly_norm.mono _ _
      | exact LeO.none _
      | refine LeO.ite ?_ ?_
      | refine LeO.bind ?_ (fun _ => ?_)
set_option maxHeartbeats 8000000 in
set_option maxRecDepth 100000 in
theorem bpoly_Degree.calls (k : Nat) (A0 : Option Addr) (c0 : Nat) (l0 : List Int) (r : Int) (w : World) (hr0 : Kd.C (Kd.int .u8) w A0 l0.length l0) (hc0 : l0.length ≤ c0) (h : bpoly_Degree.f k l0 = some r) :
    Calls Try.prog 49 #[.slice A0 l0.length c0] w fun e w' => e = .returned (.int .i64 r) ∧ Below w.heap.size w w' := by
  have HR0 := Aside0.mk hr0
  have HC0 := Aside0.mk hc0
  clear hr0 hc0
  have HB := Aside0.mk (Below.refl w.heap.size w)
  have H : ((bpoly_norm.f k l0).bind fun t152 => (if (t152.length : Int) = 0 then (some (-1)) else (if 0 ≤ (wrap64 ((t152.length : Int) - 1)) then (if (wrap64 ((t152.length : Int) - 1)) < (t152.length : Int) then ((bits_Len8.f (rd t152 (wrap64 ((t152.length : Int) - 1)))).bind fun t156 => (some (wrap64 ((wrap64 ((wrap64 ((wrap64 (8 * (t152.length : Int))) - 8)) + t156)) - 1)))) else (none)) else (none)))) = some r := h
  clear h
  replace H := Option.bind_eq_some_iff.mp H
  obtain ⟨t152, A20, H⟩ := H
  replace H : (if (t152.length : Int) = 0 then (some (-1)) else (if 0 ≤ (wrap64 ((t152.length : Int) - 1)) then (if (wrap64 ((t152.length : Int) - 1)) < (t152.length : Int) then ((bits_Len8.f (rd t152 (wrap64 ((t152.length : Int) - 1)))).bind fun t156 => (some (wrap64 ((wrap64 ((wrap64 ((wrap64 (8 * (t152.length : Int))) - 8)) + t156)) - 1)))) else (none)) else (none))) = some r := H
  have A2 := Aside0.mk A20
  clear A20
  by_cases c3 : (t152.length : Int) = 0
  · rw [if_pos c3] at H
    have c3b0 : ((t152.length : Int) == 0) = true := beq_iff_eq.mpr c3
    have c3b1 : ((t152.length : Int) != 0) = false := bne_eq_false_iff_eq.mpr c3
    clear c3
    obtain rfl := Option.some.inj H
    go_enter Try.func49, Try.ntmps49
    go_wp2_with (first | ((with_reducible refine gate_callee (f := 48) rfl ?_); refine goesL_ (some 4) rfl rfl Try.func48 (by kernel_rfl) rfl #[.slice A0 l0.length c0] rfl (by (try simp only [List.map_toArray, List.map_cons, List.map_nil]); first | done | rfl | (simp only [List.length_drop, List.length_take]; rfl)) ?_; (with_reducible refine (bpoly_norm.calls k (fun k_ => k_ < w.heap.size) _ _ l0 t152 _ ?side1 A2.out).mono ?_); (case side1 => exact Kd.V_mk HC0.out (Kd.F_below (Kd.C_F (Kd.heap_int .u8) HR0.out) (by repeat (first | (with_reducible first | exact HB.out | apply below_alloc | apply pw_below_drewN | apply below_drew1) | exact HB.out)))); rintro e w4 ⟨v153, rfl, ho0, hb⟩; refine ⟨_, rfl, ?_⟩; have n0_ := Aside0.mk (Kd.V_lower (Kd.V_mono (ok' := fun k_ => True) ho0 (fun k_ hk_ => trivial)) (below_size (by repeat (first | (with_reducible first | exact HB.out | apply below_alloc | apply pw_below_drewN | apply below_drew1) | exact HB.out)))); have n1_ := Aside0.mk (below_step (by repeat (first | (with_reducible first | exact HB.out | apply below_alloc | apply pw_below_drewN | apply below_drew1) | exact HB.out)) hb); clear HB; have HO154 := n0_; have HB := n1_; clear n0_ n1_; (try clear hb); (try clear hb2); (try clear hk); (try clear hi); (try clear ho0); obtain ⟨Ao5, co5, eo5⟩ := Kd.V_slice HO154.out; subst eo5))
    go_ret
    exact ⟨by first | rfl | (simp [errW_none, errW_some] <;> rfl) | (simp [*, errW_none, errW_some] <;> rfl), by repeat (first | (with_reducible first | exact HB.out | apply below_alloc | apply pw_below_drewN | apply below_drew1) | exact HB.out)⟩
  · rw [if_neg c3] at H
    have c3b0 : ((t152.length : Int) == 0) = false := beq_eq_false_iff_ne.mpr c3
    have c3b1 : ((t152.length : Int) != 0) = true := bne_iff_ne.mpr c3
    have c3b2 : ¬ (t152 = []) := fun h_ => c3 (by rw [h_]; rfl)
    obtain ⟨ji6, hji6⟩ : ∃ j_ : Int, (wrap64 ((t152.length : Int) - 1)) = j_ := ⟨_, rfl⟩
    replace H : (if 0 ≤ (ji6) then (if (ji6) < (t152.length : Int) then ((bits_Len8.f (rd t152 (ji6))).bind fun t156 => (some (wrap64 ((wrap64 ((wrap64 ((wrap64 (8 * (t152.length : Int))) - 8)) + t156)) - 1)))) else (none)) else (none)) = some r := by first | (rw [hji6] at H; exact H) | (simp only [hji6] at H ⊢; exact H)
    (try rw [hji6] at A2)
    have hji6w : (IntKind.i64.wrap ((t152.length : Int) - 1)) = ji6 := (i64_w _).trans hji6
    by_cases c7 : 0 ≤ (ji6)
    · rw [if_pos c7] at H
      have c7b0 : decide (0 ≤ (ji6)) = true := decide_eq_true c7
      clear c7
      by_cases c8 : (ji6) < (t152.length : Int)
      · rw [if_pos c8] at H
        have c8b0 : decide ((ji6) < (t152.length : Int)) = true := decide_eq_true c8
        clear c8
        replace H := Option.bind_eq_some_iff.mp H
        obtain ⟨t156, A90, H⟩ := H
        replace H : (some (wrap64 ((wrap64 ((wrap64 ((wrap64 (8 * (t152.length : Int))) - 8)) + t156)) - 1))) = some r := H
        have A9 := Aside0.mk A90
        clear A90
        obtain rfl := Option.some.inj H
        go_enter Try.func49, Try.ntmps49
        go_wp2_with (first | ((with_reducible refine gate_callee (f := 48) rfl ?_); refine goesL_ (some 4) rfl rfl Try.func48 (by kernel_rfl) rfl #[.slice A0 l0.length c0] rfl (by (try simp only [List.map_toArray, List.map_cons, List.map_nil]); first | done | rfl | (simp only [List.length_drop, List.length_take]; rfl)) ?_; (with_reducible refine (bpoly_norm.calls k (fun k_ => k_ < w.heap.size) _ _ l0 t152 _ ?side1 A2.out).mono ?_); (case side1 => exact Kd.V_mk HC0.out (Kd.F_below (Kd.C_F (Kd.heap_int .u8) HR0.out) (by repeat (first | (with_reducible first | exact HB.out | apply below_alloc | apply pw_below_drewN | apply below_drew1) | exact HB.out)))); rintro e w10 ⟨v153, rfl, ho0, hb⟩; refine ⟨_, rfl, ?_⟩; have n0_ := Aside0.mk (Kd.V_lower (Kd.V_mono (ok' := fun k_ => True) ho0 (fun k_ hk_ => trivial)) (below_size (by repeat (first | (with_reducible first | exact HB.out | apply below_alloc | apply pw_below_drewN | apply below_drew1) | exact HB.out)))); have n1_ := Aside0.mk (below_step (by repeat (first | (with_reducible first | exact HB.out | apply below_alloc | apply pw_below_drewN | apply below_drew1) | exact HB.out)) hb); clear HB; have HO154 := n0_; have HB := n1_; clear n0_ n1_; (try clear hb); (try clear hb2); (try clear hk); (try clear hi); (try clear ho0); obtain ⟨Ao11, co11, eo11⟩ := Kd.V_slice HO154.out; subst eo11; have p155 : 0 ≤ ((ji6) : Int) := of_decide_eq_true (by first | (with_reducible assumption) | assumption); have q155 : (ji6) < (t152.length : Int) := of_decide_eq_true (by first | (with_reducible assumption) | assumption); obtain ⟨ad155, e155, hx155_0⟩ := Kd.at_int (Kd.V_reads' HO154.out).2.2 (ji6) p155 q155; cases e155; replace p155 := eq_true p155; replace q155 := eq_true q155) | ((with_reducible refine gate_callee (f := 66) rfl ?_); refine goesL_ (some 18) rfl rfl Try.func66 (by kernel_rfl) rfl #[.int .u8 (rd t152 (ji6))] rfl (by (try simp only [List.map_toArray, List.map_cons, List.map_nil]); first | done | (simp only [hji6]; rfl) | rfl | (simp only [List.length_drop, List.length_take]; rfl)) ?_; (with_reducible refine (bits_Len8.calls (rd t152 (ji6)) t156 _ A9.out).mono ?_); rintro e w' ⟨rfl, ⟨nd, rfl⟩⟩; refine ⟨_, rfl, ?_⟩))
        go_ret
        exact ⟨by first | rfl | (simp [errW_none, errW_some] <;> rfl) | (simp only [← hji6]; first | rfl | (simp [errW_none, errW_some] <;> rfl)) | (simp [*, errW_none, errW_some] <;> rfl), by repeat (first | (with_reducible first | exact HB.out | apply below_alloc | apply pw_below_drewN | apply below_drew1) | exact HB.out)⟩
      · rw [if_neg c8] at H
        exact absurd H (by simp)
    · rw [if_neg c7] at H
      exact absurd H (by simp)
def cpy (l y : List Int) : List Int := l.take (min l.length y.length) ++ y.drop (min l.length y.length)
def bpoly_Mod.l0 : Nat → List Int → Int → List Int → Int → Option (List Int × Int)
  | 0, _, _, _, _ => none
  | k + 1, x1, x6, x7, x8 => if x8 ≥ x6 then ((bpoly_one.f x7 x8).bind fun t167 => (if t167 = true then ((bpoly_add.f k x7 x1 (wrap64 (x8 - x6))).bind fun t168 => (bpoly_Mod.l0 k x1 x6 t168 (wrap64 (x8 - 1)))) else (bpoly_Mod.l0 k x1 x6 x7 (wrap64 (x8 - 1))))) else ((bpoly_norm.f k x7).bind fun t164 => (some (t164, 0)))
def bpoly_Mod.f (k : Nat) (l0 : List Int) (l1 : List Int) : Option (List Int × Int) := (bpoly_norm.f k l1).bind fun t157 => ((bpoly_Degree.f k t157).bind fun t160 => (if t160 < 0 then (some (([] : List Int), 20)) else (if 0 ≤ (wrap64 ((l0.length : Int) + 1)) then (if (wrap64 ((l0.length : Int) + 1) : Int).toNat ≤ 281474976710656 then (bpoly_Mod.l0 k t157 t160 (cpy l0 (List.replicate (wrap64 ((l0.length : Int) + 1) : Int).toNat 0)) (wrap64 ((wrap64 (8 * (l0.length : Int))) - 1))) else (none)) else (none))))
theorem bpoly_Mod.mono_l : ∀ k, (∀ y0 y1 y2 y3, LeO (bpoly_Mod.l0 k y0 y1 y2 y3) (bpoly_Mod.l0 (k + 1) y0 y1 y2 y3))
  | 0 => fun _ _ _ _ r h => by simp [bpoly_Mod.l0] at h
  | k + 1 => by
    have ih0 := bpoly_Mod.mono_l k
    · intro y0 y1 y2 y3
      unfold bpoly_Mod.l0
      repeat' first
      | (with_reducible exact ih0 _ _ _ _)
      | (with_reducible exact bpoly_Degree.mono _ _)
      | (with_reducible exact bpoly_add.mono _ _ _ _)
      | (with_reducible exact bpoly_norm.mono _ _)
      | (with_reducible exact LeO.refl _)
      | (with_reducible exact LeO.none _)
      | (with_reducible refine LeO.ite ?_ ?_)
      | (with_reducible refine LeO.bind ?_ (fun _ => ?_))
      | exact ih0 _ _ _ _
      | exact bpoly_Degree.mono _ _
      | exact bpoly_add.mono _ _ _ _
      | exact bpoly_norm.mono _ _
      | exact LeO.none _
      | refine LeO.ite ?_ ?_
      | refine LeO.bind ?_ (fun _ => ?_)
theorem bpoly_Mod.mono : ∀ a0 a1 k, LeO (bpoly_Mod.f k a0 a1) (bpoly_Mod.f (k + 1) a0 a1) := by
  intro a0 a1 k
  have ih0 := bpoly_Mod.mono_l k
  unfold bpoly_Mod.f
  repeat' first
      | (with_reducible exact ih0 _ _ _ _)
      | (with_reducible exact bpoly_Degree.mono _ _)
      | (with_reducible exact bpoly_add.mono _ _ _ _)
      | (with_reducible exact bpoly_norm.mono _ _)
      | (with_reducible exact LeO.refl _)
      | (with_reducible exact LeO.none _)
      | (with_reducible refine LeO.ite ?_ ?_)
      | (with_reducible refine LeO.bind ?_ (fun _ => ?_))
      | exact ih0 _ _ _ _
      | exact bpoly_Degree.mono _ _
      | exact bpoly_add.mono _ _ _ _
      | exact bpoly_norm.mono _ _
      | exact LeO.none _
      | refine LeO.ite ?_ ?_
      | refine LeO.bind ?_ (fun _ => ?_)
theorem norm_is : ∀ {k : Nat} {l r : List Int}, l.length ≤ 9223372036854775807 → bpoly_norm.l0 k l = some r → ∃ m, m ≤ l.length ∧ r = l.take m ∧ (∀ j, m ≤ j → l.getD j 0 = 0) ∧ (0 < m → l.getD (m - 1) 0 ≠ 0)
  | 0, l, r, _, h => by simp [bpoly_norm.l0] at h
  | k + 1, l, r, hl, h => by
    rw [bpoly_norm.l0] at h
    by_cases h0 : (l.length : Int) > 0
    · rw [if_pos h0] at h
      by_cases h1 : 0 ≤ wrap64 ((l.length : Int) - 1)
      · rw [if_pos h1] at h
        by_cases h2 : wrap64 ((l.length : Int) - 1) < (l.length : Int)
        · rw [if_pos h2] at h
          have e : wrap64 ((l.length : Int) - 1) = ((l.length - 1 : Nat) : Int) := by unfold wrap64; omega
          rw [e] at h
          have e2 : rd l ((l.length - 1 : Nat) : Int) = l.getD (l.length - 1) 0 := by unfold rd; rw [Int.toNat_natCast]
          rw [e2] at h
          by_cases h3 : l.getD (l.length - 1) 0 = 0
          · rw [if_pos h3] at h
            rw [if_pos (by omega), Int.toNat_natCast] at h
            obtain ⟨m, hm, hr, hz, hn⟩ := norm_is (by rw [List.length_take]; omega) h
            rw [List.length_take] at hm
            refine ⟨m, by omega, ?_, fun j hj => ?_, fun hm0 => ?_⟩
            · rw [hr, List.take_take, Nat.min_eq_left (by omega)]
            · by_cases hj2 : j < l.length - 1
              · have := hz j hj
                rwa [List.getD_eq_getElem?_getD, List.getElem?_take, if_pos hj2, ← List.getD_eq_getElem?_getD] at this
              · by_cases hj3 : j = l.length - 1
                · subst hj3; exact h3
                · simp [List.getElem?_eq_none (show l.length ≤ j by omega)]
            · have := hn hm0
              have hlt : m - 1 < l.length - 1 := by omega
              rwa [List.getD_eq_getElem?_getD, List.getElem?_take, if_pos hlt, ← List.getD_eq_getElem?_getD] at this
          · rw [if_neg h3] at h
            obtain rfl := Option.some.inj h
            exact ⟨l.length, Nat.le_refl _, by rw [List.take_length], fun j hj => by simp [List.getElem?_eq_none hj], fun _ => h3⟩
        · rw [if_neg h2] at h; exact absurd h (by simp)
      · rw [if_neg h1] at h; exact absurd h (by simp)
    · rw [if_neg h0] at h
      obtain rfl := Option.some.inj h
      have : l.length = 0 := by omega
      exact ⟨0, by omega, by rw [List.take_zero]; exact List.eq_nil_of_length_eq_zero this, fun j hj => by simp [List.getElem?_eq_none (show l.length ≤ j by omega)], fun h => absurd h (by omega)⟩
theorem norm_cut_same {l : List Int} {m m' : Nat} (h1 : ∀ j, m ≤ j → l.getD j 0 = 0) (h2 : 0 < m → l.getD (m - 1) 0 ≠ 0) (h1' : ∀ j, m' ≤ j → l.getD j 0 = 0) (h2' : 0 < m' → l.getD (m' - 1) 0 ≠ 0) : m = m' := by
  rcases Nat.lt_trichotomy m m' with h | h | h
  · exact absurd (h1 (m' - 1) (by omega)) (h2' (by omega))
  · exact h
  · exact absurd (h1' (m - 1) (by omega)) (h2 (by omega))
theorem R_norm_cut {w : World} {base : Nat} {ok : Nat → Prop} {A : Option Addr} {c m : Nat} {l r : List Int} (h : Kd.R (Kd.int .u8) 5 w base ok (.slice A l.length c) l) (hm : m ≤ l.length) (hz : ∀ j, m ≤ j → l.getD j 0 = 0) (hn : 0 < m → l.getD (m - 1) 0 ≠ 0) (hr : ∃ m, m ≤ l.length ∧ r = l.take m ∧ (∀ j, m ≤ j → l.getD j 0 = 0) ∧ (0 < m → l.getD (m - 1) 0 ≠ 0)) : Kd.R (Kd.int .u8) 5 w base (fun _ => True) (.slice A m c) r := by
  obtain ⟨m', hm', rfl, hz', hn'⟩ := hr
  obtain rfl := norm_cut_same hz hn hz' hn'
  have ho := Kd.own_of_R h
  rcases ho.2 with ⟨h0, h1⟩ | ⟨g, cap, cur, hv, hg, hh, h1, h2, h3, h4⟩
  · injection h0 with a b c'
    subst a; subst c'
    have : m = 0 := by omega
    subst this
    rw [List.take_zero]
    exact Kd.R_nil _ _ _ _ _
  · injection hv with a b c'
    subst a; subst c'
    have h5 := own_take ho hm
    have h6 : (encs (Value.int .u8) l).take (m * 1) = encs (Value.int .u8) (l.take m) := by rw [Nat.mul_one]; simp [encs, List.map_take]
    rw [h6] at h5
    have h7 : (l.take m).length = m := by rw [List.length_take]; omega
    exact Kd.R_of_own (h1 := fun _ => rfl) (by rw [h7]; exact h5) (fun _ _ => trivial)
set_option maxHeartbeats 8000000 in
set_option maxRecDepth 100000 in
theorem bpoly_Mod.calls (k : Nat) (A0 : Option Addr) (c0 : Nat) (l0 : List Int) (A1 : Option Addr) (c1 : Nat) (l1 : List Int) (r1 : List Int) (r2 : Int) (w : World) (hr0 : Kd.C (Kd.int .u8) w A0 l0.length l0) (hc0 : l0.length ≤ c0) (hr1 : Kd.C (Kd.int .u8) w A1 l1.length l1) (hc1 : l1.length ≤ c1) (h : bpoly_Mod.f k l0 l1 = some (r1, r2)) :
    Calls Try.prog 29 #[.slice A0 l0.length c0, .slice A1 l1.length c1] w fun e w' => ∃ v0_ : Value, e = .returned (.tuple #[v0_, .int .i64 r2]) ∧ Kd.R (Kd.int .u8) 5 w' w.heap.size (fun _ => True) v0_ r1 ∧ Below w.heap.size w w' := by
  have HR0 := Aside0.mk hr0
  have HC0 := Aside0.mk hc0
  clear hr0 hc0
  have HO1 := Aside0.mk (show Kd.V (Kd.int .u8) 5 w w.heap.size (fun k_ => ((k_ < w.heap.size) ∨ w.heap.size ≤ k_)) (.slice A1 l1.length c1) l1 from Kd.V_mono (Kd.V_mk hc1 (Kd.C_F (Kd.heap_int .u8) hr1)) (fun k_ hk => .inl hk))
  have HB := Aside0.mk (Below.refl w.heap.size w)
  have H : ((bpoly_norm.f k l1).bind fun t157 => ((bpoly_Degree.f k t157).bind fun t160 => (if t160 < 0 then (some (([] : List Int), 20)) else (if 0 ≤ (wrap64 ((l0.length : Int) + 1)) then (if (wrap64 ((l0.length : Int) + 1) : Int).toNat ≤ 281474976710656 then (bpoly_Mod.l0 k t157 t160 (cpy l0 (List.replicate (wrap64 ((l0.length : Int) + 1) : Int).toNat 0)) (wrap64 ((wrap64 (8 * (l0.length : Int))) - 1))) else (none)) else (none))))) = some (r1, r2) := h
  clear h
  replace H := Option.bind_eq_some_iff.mp H
  obtain ⟨t157, A30, H⟩ := H
  replace H : ((bpoly_Degree.f k t157).bind fun t160 => (if t160 < 0 then (some (([] : List Int), 20)) else (if 0 ≤ (wrap64 ((l0.length : Int) + 1)) then (if (wrap64 ((l0.length : Int) + 1) : Int).toNat ≤ 281474976710656 then (bpoly_Mod.l0 k t157 t160 (cpy l0 (List.replicate (wrap64 ((l0.length : Int) + 1) : Int).toNat 0)) (wrap64 ((wrap64 (8 * (l0.length : Int))) - 1))) else (none)) else (none)))) = some (r1, r2) := H
  have A3 := Aside0.mk A30
  clear A30
  replace H := Option.bind_eq_some_iff.mp H
  obtain ⟨t160, A40, H⟩ := H
  replace H : (if t160 < 0 then (some (([] : List Int), 20)) else (if 0 ≤ (wrap64 ((l0.length : Int) + 1)) then (if (wrap64 ((l0.length : Int) + 1) : Int).toNat ≤ 281474976710656 then (bpoly_Mod.l0 k t157 t160 (cpy l0 (List.replicate (wrap64 ((l0.length : Int) + 1) : Int).toNat 0)) (wrap64 ((wrap64 (8 * (l0.length : Int))) - 1))) else (none)) else (none))) = some (r1, r2) := H
  have A4 := Aside0.mk A40
  clear A40
  by_cases c5 : t160 < 0
  · rw [if_pos c5] at H
    have c5b0 : decide (t160 < 0) = true := decide_eq_true c5
    clear c5
    simp only [Option.some.injEq, Prod.mk.injEq] at H
    obtain ⟨rfl, rfl⟩ := H
    go_enter Try.func29, Try.ntmps29
    go_wp2_with (first | ((with_reducible refine gate_callee (f := 48) rfl ?_); refine goesL_ (some 10) rfl rfl Try.func48 (by kernel_rfl) rfl #[.slice A1 l1.length c1] rfl (by (try simp only [List.map_toArray, List.map_cons, List.map_nil]); first | done | rfl | (simp only [List.length_drop, List.length_take]; rfl)) ?_; (with_reducible refine (bpoly_norm.calls k (fun k_ => ((k_ < w.heap.size) ∨ w.heap.size ≤ k_)) _ _ l1 t157 _ ?side1 A3.out).mono ?_); (case side1 => exact HO1.out); rintro e w6 ⟨v158, rfl, ho0, hb⟩; refine ⟨_, rfl, ?_⟩; have n0_ := Aside0.mk (Kd.V_below (by (with_reducible repeat (first | apply Kd.V_alloc | apply Kd.V_drewN | apply Kd.V_drew)); exact HO1.out) hb); have n1_ := Aside0.mk (Kd.V_lower (Kd.V_mono (ok' := fun k_ => ((k_ < w.heap.size) ∨ w.heap.size ≤ k_)) ho0 (fun k_ hk_ => Or.elim hk_ (fun hs_ => hs_) (fun hn_ => (.inr (Nat.le_trans (below_size (by repeat (first | (with_reducible first | exact HB.out | apply below_alloc | apply pw_below_drewN | apply below_drew1) | exact HB.out))) hn_))))) (below_size (by repeat (first | (with_reducible first | exact HB.out | apply below_alloc | apply pw_below_drewN | apply below_drew1) | exact HB.out)))); have n2_ := Aside0.mk (below_step (by repeat (first | (with_reducible first | exact HB.out | apply below_alloc | apply pw_below_drewN | apply below_drew1) | exact HB.out)) hb); clear HO1; clear HB; have HO1 := n0_; have HO159 := n1_; have HB := n2_; clear n0_ n1_ n2_; (try clear hb); (try clear hb2); (try clear hk); (try clear hi); (try clear ho0); obtain ⟨Ao7, co7, eo7⟩ := Kd.V_slice HO159.out; subst eo7) | ((with_reducible refine gate_callee (f := 49) rfl ?_); refine goesL_ (some 12) rfl rfl Try.func49 (by kernel_rfl) rfl #[.slice Ao7 t157.length co7] rfl (by (try simp only [List.map_toArray, List.map_cons, List.map_nil]); first | done | rfl | (simp only [List.length_drop, List.length_take]; rfl)) ?_; (with_reducible refine (bpoly_Degree.calls k _ _ t157 t160 _ ?side1 ?side2 A4.out).mono ?_); (case side1 => repeat (first | exact (Kd.V_reads' HO159.out).2.2 | (with_reducible refine Kd.C_alloc ?_ _) | (with_reducible refine Kd.C_drewN ?_ _) | (with_reducible refine Kd.C_drew ?_))); (case side2 => exact (Kd.V_reads' HO159.out).2.1); rintro e w8 ⟨rfl, hb⟩; refine ⟨_, rfl, ?_⟩; have n0_ := Aside0.mk (Kd.V_below (by (with_reducible repeat (first | apply Kd.V_alloc | apply Kd.V_drewN | apply Kd.V_drew)); exact HO1.out) hb); have n1_ := Aside0.mk (Kd.V_below (by (with_reducible repeat (first | apply Kd.V_alloc | apply Kd.V_drewN | apply Kd.V_drew)); exact HO159.out) hb); have n2_ := Aside0.mk (below_step (by repeat (first | (with_reducible first | exact HB.out | apply below_alloc | apply pw_below_drewN | apply below_drew1) | exact HB.out)) hb); clear HO1; clear HO159; clear HB; have HO1 := n0_; have HO159 := n1_; have HB := n2_; clear n0_ n1_ n2_; (try clear hb); (try clear hb2); (try clear hk); (try clear hi)))
    go_ret2
    exact ⟨.slice none 0 0, by first | rfl | (simp [errW_none, errW_some] <;> rfl) | (simp [*, errW_none, errW_some] <;> rfl), Kd.R_nil _ _ _ _ _, by repeat (first | (with_reducible first | exact HB.out | apply below_alloc | apply pw_below_drewN | apply below_drew1) | exact HB.out)⟩
  · rw [if_neg c5] at H
    have c5b0 : decide (t160 < 0) = false := decide_eq_false c5
    clear c5
    obtain ⟨ji9, hji9⟩ : ∃ j_ : Int, (wrap64 ((l0.length : Int) + 1)) = j_ := ⟨_, rfl⟩
    replace H : (if 0 ≤ (ji9) then (if (ji9 : Int).toNat ≤ 281474976710656 then (bpoly_Mod.l0 k t157 t160 (cpy l0 (List.replicate (ji9 : Int).toNat 0)) (wrap64 ((wrap64 (8 * (l0.length : Int))) - 1))) else (none)) else (none)) = some (r1, r2) := by first | (rw [hji9] at H; exact H) | (simp only [hji9] at H ⊢; exact H)
    (try rw [hji9] at A3)
    (try rw [hji9] at A4)
    have hji9w : (IntKind.i64.wrap ((l0.length : Int) + 1)) = ji9 := (i64_w _).trans hji9
    by_cases c10 : 0 ≤ (ji9)
    · rw [if_pos c10] at H
      have c10b0 := eq_true c10
      have c10b1 : decide (0 ≤ (ji9)) = true := decide_eq_true c10
      clear c10
      by_cases c11 : (ji9 : Int).toNat ≤ 281474976710656
      · rw [if_pos c11] at H
        have c11b0 := eq_true c11
        have c11b1 : decide ((ji9 : Int).toNat ≤ 281474976710656) = true := decide_eq_true c11
        clear c11
        obtain ⟨y161, hy161⟩ : ∃ y_ : List Int, y_ = (List.replicate (ji9 : Int).toNat 0) := ⟨_, rfl⟩
        replace H : (bpoly_Mod.l0 k t157 t160 (cpy l0 y161) (wrap64 ((wrap64 (8 * (l0.length : Int))) - 1))) = some (r1, r2) := by first | (rw [hy161]; with_reducible exact H) | (have H2_ := (Option.bind_some _ _).symm.trans H; rw [hy161]; with_reducible exact H2_) | (have H2_ := (Option.bind_some _ _).symm.trans H; with_reducible exact H2_) | with_reducible exact H | (rw [hy161]; exact H) | exact H
        have Ny161 := Aside0.mk hy161
        clear hy161
        have H' := Aside0.mk H
        clear H
        go_enter Try.func29, Try.ntmps29
        go_wp2_with (first | ((with_reducible refine gate_callee (f := 48) rfl ?_); refine goesL_ (some 10) rfl rfl Try.func48 (by kernel_rfl) rfl #[.slice A1 l1.length c1] rfl (by (try simp only [List.map_toArray, List.map_cons, List.map_nil]); first | done | rfl | (simp only [List.length_drop, List.length_take]; rfl)) ?_; (with_reducible refine (bpoly_norm.calls k (fun k_ => ((k_ < w.heap.size) ∨ w.heap.size ≤ k_)) _ _ l1 t157 _ ?side1 A3.out).mono ?_); (case side1 => exact HO1.out); rintro e w12 ⟨v158, rfl, ho0, hb⟩; refine ⟨_, rfl, ?_⟩; have n0_ := Aside0.mk (Kd.V_below (by (with_reducible repeat (first | apply Kd.V_alloc | apply Kd.V_drewN | apply Kd.V_drew)); exact HO1.out) hb); have n1_ := Aside0.mk (Kd.V_lower (Kd.V_mono (ok' := fun k_ => ((k_ < w.heap.size) ∨ w.heap.size ≤ k_)) ho0 (fun k_ hk_ => Or.elim hk_ (fun hs_ => hs_) (fun hn_ => (.inr (Nat.le_trans (below_size (by repeat (first | (with_reducible first | exact HB.out | apply below_alloc | apply pw_below_drewN | apply below_drew1) | exact HB.out))) hn_))))) (below_size (by repeat (first | (with_reducible first | exact HB.out | apply below_alloc | apply pw_below_drewN | apply below_drew1) | exact HB.out)))); have n2_ := Aside0.mk (below_step (by repeat (first | (with_reducible first | exact HB.out | apply below_alloc | apply pw_below_drewN | apply below_drew1) | exact HB.out)) hb); clear HO1; clear HB; have HO1 := n0_; have HO159 := n1_; have HB := n2_; clear n0_ n1_ n2_; (try clear hb); (try clear hb2); (try clear hk); (try clear hi); (try clear ho0); obtain ⟨Ao13, co13, eo13⟩ := Kd.V_slice HO159.out; subst eo13) | ((with_reducible refine gate_callee (f := 49) rfl ?_); refine goesL_ (some 12) rfl rfl Try.func49 (by kernel_rfl) rfl #[.slice Ao13 t157.length co13] rfl (by (try simp only [List.map_toArray, List.map_cons, List.map_nil]); first | done | rfl | (simp only [List.length_drop, List.length_take]; rfl)) ?_; (with_reducible refine (bpoly_Degree.calls k _ _ t157 t160 _ ?side1 ?side2 A4.out).mono ?_); (case side1 => repeat (first | exact (Kd.V_reads' HO159.out).2.2 | (with_reducible refine Kd.C_alloc ?_ _) | (with_reducible refine Kd.C_drewN ?_ _) | (with_reducible refine Kd.C_drew ?_))); (case side2 => exact (Kd.V_reads' HO159.out).2.1); rintro e w14 ⟨rfl, hb⟩; refine ⟨_, rfl, ?_⟩; have n0_ := Aside0.mk (Kd.V_below (by (with_reducible repeat (first | apply Kd.V_alloc | apply Kd.V_drewN | apply Kd.V_drew)); exact HO1.out) hb); have n1_ := Aside0.mk (Kd.V_below (by (with_reducible repeat (first | apply Kd.V_alloc | apply Kd.V_drewN | apply Kd.V_drew)); exact HO159.out) hb); have n2_ := Aside0.mk (below_step (by repeat (first | (with_reducible first | exact HB.out | apply below_alloc | apply pw_below_drewN | apply below_drew1) | exact HB.out)) hb); clear HO1; clear HO159; clear HB; have HO1 := n0_; have HO159 := n1_; have HB := n2_; clear n0_ n1_ n2_; (try clear hb); (try clear hb2); (try clear hk); (try clear hi)) | ((with_reducible refine gate_dst (N := 18) rfl ?_); refine Kd.R_make (Kd.int .u8) _ 5 rfl (N := 18) rfl 22 _ _ rfl ji9 rfl rfl Try.underlying22 (.int .u8 0) 1 info5 rfl (by decide) (by omega) 0 (ok := fun _ => True) (okp := fun _ => True) rfl (fun _ hk => hk) trivial (of_decide_eq_true (by first | (with_reducible assumption) | assumption)) (Nat.le_trans (Nat.mul_le_mul_right _ (of_decide_eq_true (by first | (with_reducible assumption) | assumption) : ji9.toNat ≤ 281474976710656)) (by omega)) (Below.refl _ _) (Nat.le_refl _) ?_; intro v162 w15 ho16 hb hg_ hnew_; clear hg_ hnew_; (first | rw [← Ny161.out] at ho16 | (simp only [Int.reduceToNat] at ho16; rw [← Ny161.out] at ho16)); have n0_ := Aside0.mk (Kd.V_elder' (by (with_reducible repeat (first | apply Kd.V_alloc | apply Kd.V_drewN | apply Kd.V_drew)); exact HO1.out) (Kd.R_base ho16) hb); have n1_ := Aside0.mk (Kd.V_elder' (by (with_reducible repeat (first | apply Kd.V_alloc | apply Kd.V_drewN | apply Kd.V_drew)); exact HO159.out) (Kd.R_base ho16) hb); have n2_ := Aside0.mk (Kd.R_lower (Kd.R_newM (M := fun k_ => (w.heap.size ≤ k_)) ho16 (below_size (by repeat (first | (with_reducible first | exact HB.out | apply below_alloc | apply pw_below_drewN | apply below_drew1) | exact HB.out))) (fun k_ h_ => h_)) (below_size (by repeat (first | (with_reducible first | exact HB.out | apply below_alloc | apply pw_below_drewN | apply below_drew1) | exact HB.out)))); have n3_ := Aside0.mk (below_step (by repeat (first | (with_reducible first | exact HB.out | apply below_alloc | apply pw_below_drewN | apply below_drew1) | exact HB.out)) hb); clear HO1; clear HO159; clear HB; have HO1 := n0_; have HO159 := n1_; have HO163 := n2_; have HB := n3_; clear n0_ n1_ n2_ n3_; clear hb ho16) | ((with_reducible refine gate_dst (N := 21) rfl ?_); refine Kd.R_copy (enc := Value.int .u8) 0 w.heap.size rfl (.tmp 19) (.tmp 20) 22 22 5 rfl Try.underlying22 (by kernel_rfl) v162 y161 l0 A0 l0.length c0 _ rfl rfl HO163.out (Kd.C_below HR0.out HB.out) HB.out HB.out.size ?_; intro w6 ho7 hb7 hg7; have m0_ := Aside0.mk (Kd.V_grown HO1.out hg7 (fun k_ hk_ => hk_.2)); have m1_ := Aside0.mk (Kd.V_grown HO159.out hg7 (fun k_ hk_ => hk_.2)); clear HO1 HO159 HO163 HB; have HO1 := m0_; have HO159 := m1_; have HO163 := Aside0.mk ho7; have HB := Aside0.mk hb7; clear hb7 ho7 hg7 m0_ m1_))
        go_loopg [8] k (fun kq v8 w' => ∃ (x7_1 : List Int) (x8_1 : Int), v8 = .int .i64 x8_1 ∧ Aside0 (bpoly_Mod.l0 kq t157 t160 x7_1 x8_1 = some (r1, r2)) ∧ Aside0 (kq ≤ k) ∧ Aside0 (Kd.V (Kd.int .u8) 5 w' w.heap.size (fun k_ => ((k_ < w.heap.size) ∨ w.heap.size ≤ k_) ∧ some k_ ≠ (v162 : Value).ownBlock) (.slice Ao13 t157.length co13) t157) ∧ Aside0 (Kd.R (Kd.int .u8) 5 w' w.heap.size (fun k_ => (w.heap.size ≤ k_)) v162 x7_1) ∧ Aside0 (Below w.heap.size w w'))
        case atStart => exact ⟨(cpy l0 y161), (wrap64 ((wrap64 (8 * (l0.length : Int))) - 1)), (by first | rfl | (simp; done) | (simp [*]; done)), H', ⟨Nat.le_refl _⟩, ⟨by (with_reducible repeat (first | apply Kd.V_alloc | apply Kd.V_drewN | apply Kd.V_drew)); exact HO159.out⟩, ⟨by (with_reducible repeat (first | apply Kd.R_alloc | apply Kd.R_drewN | apply Kd.R_drew)); exact Kd.R_mono HO163.out (fun _ hk => hk.1)⟩, ⟨by repeat (first | (with_reducible first | exact HB.out | apply below_alloc | apply pw_below_drewN | apply below_drew1) | exact HB.out)⟩⟩
        case round =>
          clear H'
          try clear c1
          try clear c2
          try clear p2
          try clear c4
          try clear c5
          try clear c5b0
          try clear p6
          try clear c10
          try clear c10b0
          try clear c10b1
          try clear c11
          try clear c11b0
          try clear c11b1
          obtain ⟨x7_1, x8_1, rfl, HA, HK1, HO_1, HO_7, HB⟩ := hrel
          cases gk with
          | zero => exact absurd HA.out (by simp [bpoly_Mod.l0])
          | succ k1 =>
            have H := HA.out
            clear HA
            simp only [bpoly_Mod.l0] at H
            by_cases c17 : x8_1 ≥ t160
            · rw [if_pos c17] at H
              have c17b0 : decide (t160 ≤ x8_1) = true := decide_eq_true c17
              clear c17
              replace H := Option.bind_eq_some_iff.mp H
              obtain ⟨t167, A180, H⟩ := H
              replace H : (if t167 = true then ((bpoly_add.f k1 x7_1 t157 (wrap64 (x8_1 - t160))).bind fun t168 => (bpoly_Mod.l0 k1 t157 t160 t168 (wrap64 (x8_1 - 1)))) else (bpoly_Mod.l0 k1 t157 t160 x7_1 (wrap64 (x8_1 - 1)))) = some (r1, r2) := H
              have A18 := Aside0.mk A180
              clear A180
              by_cases c19 : t167 = true
              · subst c19
                have H1 : ((bpoly_add.f k1 x7_1 t157 (wrap64 (x8_1 - t160))).bind fun t168 => (bpoly_Mod.l0 k1 t157 t160 t168 (wrap64 (x8_1 - 1)))) = some (r1, r2) := by rw [if_pos rfl] at H; exact H
                clear H
                have H := H1
                clear H1
                replace H := Option.bind_eq_some_iff.mp H
                obtain ⟨t168, A200, H⟩ := H
                replace H : (bpoly_Mod.l0 k1 t157 t160 t168 (wrap64 (x8_1 - 1))) = some (r1, r2) := H
                have A20 := Aside0.mk A200
                clear A200
                have H' := Aside0.mk H
                clear H
                obtain ⟨Ao21, co21, eo21⟩ := Kd.R_slice HO_7.out
                subst eo21
                go_wp2_with (first | ((with_reducible refine gate_callee (f := 50) rfl ?_); refine goesL_ (some 33) rfl rfl Try.func50 (by kernel_rfl) rfl #[.slice Ao21 x7_1.length co21, .int .i64 x8_1] rfl (by (try simp only [List.map_toArray, List.map_cons, List.map_nil]); first | done | rfl | (simp only [List.length_drop, List.length_take]; rfl)) ?_; (with_reducible refine (bpoly_one.calls _ _ x7_1 x8_1 true _ ?side1 ?side2 A18.out).mono ?_); (case side1 => repeat (first | exact (Kd.R_reads' HO_7.out).2.2 | (with_reducible refine Kd.C_alloc ?_ _) | (with_reducible refine Kd.C_drewN ?_ _) | (with_reducible refine Kd.C_drew ?_))); (case side2 => exact (Kd.R_reads' HO_7.out).2.1); rintro e w' ⟨rfl, ⟨nd, rfl⟩⟩; refine ⟨_, rfl, ?_⟩) | ((with_reducible refine gate_callee (f := 51) rfl ?_); refine goesL_ (some 39) rfl rfl Try.func51 (by kernel_rfl) rfl #[.slice Ao21 x7_1.length co21, .slice Ao13 t157.length co13, .int .i64 (wrap64 (x8_1 - t160))] rfl (by (try simp only [List.map_toArray, List.map_cons, List.map_nil]); first | done | rfl | (simp only [List.length_drop, List.length_take]; rfl)) ?_; (with_reducible refine (bpoly_add.calls k1 (fun k_ => some k_ = (.slice Ao21 x7_1.length co21 : Value).ownBlock) (.slice Ao21 x7_1.length co21) x7_1 _ _ t157 (wrap64 (x8_1 - t160)) t168 w _ ?side1 ?side2 ?side3 ?side4 A20.out).mono ?_); (case side1 => repeat (first | (with_reducible first | exact HB.out | apply below_alloc | apply pw_below_drewN | apply below_drew1) | exact HB.out)); (case side2 => exact Kd.R_tight rfl HO_7.out); (case side3 => exact Kd.C_kept_ownV (Kd.V_drewN HO_1.out _) (fun k_ hk_ hs_ => (hk_.2) hs_)); (case side4 => exact (Kd.V_reads' HO_1.out).2.1); rintro e w22 ⟨rfl, hy0, hb, hkp⟩; refine ⟨_, rfl, ?_⟩; have n0_ := Aside0.mk (Kd.V_mono (ok' := fun k_ => ((k_ < w.heap.size) ∨ w.heap.size ≤ k_) ∧ some k_ ≠ (.slice Ao21 x7_1.length co21 : Value).ownBlock) (Kd.V_keptB (Kd.V_drewN HO_1.out _) hkp (fun k_ hk_ hs_ => (hk_.2) hs_)) (fun k_ hk_ => ⟨hk_.1.1, hk_.1.2⟩)); have n1_ := Aside0.mk (Kd.R_reok rfl hy0 (fun k_ e_ => HO_7.out.1 k_ e_)); have n2_ := Aside0.mk (hb); clear HO_1; clear HO_7; clear HB; have HO_1 := n0_; have HO_7 := n1_; have HB := n2_; clear n0_ n1_ n2_; (try clear hb); (try clear hkp); (try clear hy0)))
                go_roundg k1
                case measure => have := HK1.out; omega
                case rel => exact ⟨(t168), (wrap64 (x8_1 - 1)), (by first | rfl | (simp; done) | (simp [*]; done)), H', ⟨by have := HK1.out; omega⟩, ⟨by (with_reducible repeat (first | apply Kd.V_alloc | apply Kd.V_drewN | apply Kd.V_drew)); exact HO_1.out⟩, ⟨by (with_reducible repeat (first | apply Kd.R_alloc | apply Kd.R_drewN | apply Kd.R_drew)); exact HO_7.out⟩, ⟨by repeat (first | (with_reducible first | exact HB.out | apply below_alloc | apply pw_below_drewN | apply below_drew1) | exact HB.out)⟩⟩
              · replace c19 := Bool.eq_false_iff.mpr c19
                subst c19
                have H1 : (bpoly_Mod.l0 k1 t157 t160 x7_1 (wrap64 (x8_1 - 1))) = some (r1, r2) := by rw [if_neg (show ¬ (false = true) by decide)] at H; exact H
                clear H
                have H := H1
                clear H1
                have H' := Aside0.mk H
                clear H
                obtain ⟨Ao23, co23, eo23⟩ := Kd.R_slice HO_7.out
                subst eo23
                go_wp2_with (first | ((with_reducible refine gate_callee (f := 50) rfl ?_); refine goesL_ (some 33) rfl rfl Try.func50 (by kernel_rfl) rfl #[.slice Ao23 x7_1.length co23, .int .i64 x8_1] rfl (by (try simp only [List.map_toArray, List.map_cons, List.map_nil]); first | done | rfl | (simp only [List.length_drop, List.length_take]; rfl)) ?_; (with_reducible refine (bpoly_one.calls _ _ x7_1 x8_1 false _ ?side1 ?side2 A18.out).mono ?_); (case side1 => repeat (first | exact (Kd.R_reads' HO_7.out).2.2 | (with_reducible refine Kd.C_alloc ?_ _) | (with_reducible refine Kd.C_drewN ?_ _) | (with_reducible refine Kd.C_drew ?_))); (case side2 => exact (Kd.R_reads' HO_7.out).2.1); rintro e w' ⟨rfl, ⟨nd, rfl⟩⟩; refine ⟨_, rfl, ?_⟩))
                go_roundg k1
                case measure => have := HK1.out; omega
                case rel => exact ⟨(x7_1), (wrap64 (x8_1 - 1)), (by first | rfl | (simp; done) | (simp [*]; done)), H', ⟨by have := HK1.out; omega⟩, ⟨by (with_reducible repeat (first | apply Kd.V_alloc | apply Kd.V_drewN | apply Kd.V_drew)); exact HO_1.out⟩, ⟨by (with_reducible repeat (first | apply Kd.R_alloc | apply Kd.R_drewN | apply Kd.R_drew)); exact HO_7.out⟩, ⟨by repeat (first | (with_reducible first | exact HB.out | apply below_alloc | apply pw_below_drewN | apply below_drew1) | exact HB.out)⟩⟩
            · rw [if_neg c17] at H
              have c17b0 : decide (t160 ≤ x8_1) = false := decide_eq_false c17
              clear c17
              replace H := Option.bind_eq_some_iff.mp H
              obtain ⟨t164, A240, H⟩ := H
              replace H : (some (t164, 0)) = some (r1, r2) := H
              have A24 := Aside0.mk A240
              clear A240
              simp only [Option.some.injEq, Prod.mk.injEq] at H
              obtain ⟨rfl, rfl⟩ := H
              obtain ⟨Ao25, co25, eo25⟩ := Kd.R_slice HO_7.out
              subst eo25
              have hnm_ := Aside0.mk (norm_is (Kd.R_reads' HO_7.out).2.2.2.1 A24.out)
              go_wp2_with (first | ((with_reducible refine gate_callee (f := 48) rfl ?_); refine goesL_ (some 41) rfl rfl Try.func48 (by kernel_rfl) rfl #[.slice Ao25 x7_1.length co25] rfl (by (try simp only [List.map_toArray, List.map_cons, List.map_nil]); first | done | rfl | (simp only [List.length_drop, List.length_take]; rfl)) ?_; (with_reducible refine (normb_calls Ao25 co25 x7_1 _ (Kd.R_reads' HO_7.out).2.2 (Kd.R_reads' HO_7.out).2.1).mono ?_); rintro e w26 ⟨mz_, hmz_, rfl, hz_, hn_, rfl⟩; refine ⟨_, rfl, ?_⟩; have HZ_ := Aside0.mk (R_norm_cut HO_7.out hmz_ hz_ hn_ hnm_.out); clear hmz_ hz_ hn_))
              go_ret2
              exact ⟨_, by first | rfl | (simp [errW_none, errW_some] <;> rfl) | (simp only [← hji9]; first | rfl | (simp [errW_none, errW_some] <;> rfl)) | (simp [*, errW_none, errW_some] <;> rfl), Kd.R_mono (by (with_reducible repeat (first | apply Kd.R_alloc | apply Kd.R_drewN | apply Kd.R_drew)); exact HZ_.out) (fun _ _ => trivial), by repeat (first | (with_reducible first | exact HB.out | apply below_alloc | apply pw_below_drewN | apply below_drew1) | exact HB.out)⟩
      · rw [if_neg c11] at H
        exact absurd H (by simp)
    · rw [if_neg c10] at H
      exact absurd H (by simp)
def bch_Encode.f (k : Nat) (a0 : Int) (l1 : List Int) : Option (List Int × Int) := (bch_size.f a0 l1).bind fun bt169 => (if bt169.2 = 0 then ((bpoly_Generator.f k a0).bind fun bt171 => (if 0 ≤ (wrap64 (bt169.1 + 1)) then (if (wrap64 (bt169.1 + 1) : Int).toNat ≤ 281474976710656 then ((some (List.replicate (wrap64 (bt169.1 + 1) : Int).toNat 0 : List Int)).bind fun y175 => (if 0 ≤ (Int.tmod (wrap64 (13 * a0)) 8) then (if 0 ≤ (wrap64 (Int.tdiv (wrap64 (13 * a0)) 8)) then (if (wrap64 (Int.tdiv (wrap64 (13 * a0)) 8)) < (y175.length : Int) then ((bpoly_Mul.f k (y175.set ((wrap64 (Int.tdiv (wrap64 (13 * a0)) 8)) : Int).toNat (shl .u8 1 (Int.tmod (wrap64 (13 * a0)) 8))) l1).bind fun t179 => ((bpoly_Mod.f k t179 bt171.1).bind fun bt182 => (if 0 ≤ (wrap64 (bt169.1 - (bt182.1.length : Int))) then (if bt182.1.length + (wrap64 (bt169.1 - (bt182.1.length : Int)) : Int).toNat < 140737488355328 then (some ((bt182.1 ++ List.replicate (wrap64 (bt169.1 - (bt182.1.length : Int)) : Int).toNat 0), 0)) else (none)) else (none)))) else (none)) else (none)) else (none))) else (none)) else (none))) else (some (([] : List Int), bt169.2)))
theorem bch_Encode.mono : ∀ a0 a1 k, LeO (bch_Encode.f k a0 a1) (bch_Encode.f (k + 1) a0 a1) := by
  intro a0 a1 k
  unfold bch_Encode.f
  repeat' first
      | (with_reducible exact bpoly_Generator.mono _ _)
      | (with_reducible exact bpoly_Mod.mono _ _ _)
      | (with_reducible exact bpoly_Mul.mono _ _ _)
      | (with_reducible exact LeO.refl _)
      | (with_reducible exact LeO.none _)
      | (with_reducible refine LeO.ite ?_ ?_)
      | (with_reducible refine LeO.bind ?_ (fun _ => ?_))
      | exact bpoly_Generator.mono _ _
      | exact bpoly_Mod.mono _ _ _
      | exact bpoly_Mul.mono _ _ _
      | exact LeO.none _
      | refine LeO.ite ?_ ?_
      | refine LeO.bind ?_ (fun _ => ?_)
set_option maxHeartbeats 8000000 in
set_option maxRecDepth 100000 in
theorem bch_Encode.calls (k : Nat) (a0 : Int) (A1 : Option Addr) (c1 : Nat) (l1 : List Int) (r1 : List Int) (r2 : Int) (w : World) (hr1 : Kd.C (Kd.int .u8) w A1 l1.length l1) (hc1 : l1.length ≤ c1) (h : bch_Encode.f k a0 l1 = some (r1, r2)) :
    Calls Try.prog 11 #[.int .i64 a0, .slice A1 l1.length c1] w fun e w' => ∃ v0_ : Value, e = .returned (.tuple #[v0_, .int .i64 r2]) ∧ Kd.R (Kd.int .u8) 5 w' w.heap.size (fun _ => True) v0_ r1 ∧ Below w.heap.size w w' := by
  have HR1 := Aside0.mk hr1
  have HC1 := Aside0.mk hc1
  clear hr1 hc1
  have HB := Aside0.mk (Below.refl w.heap.size w)
  have H : ((bch_size.f a0 l1).bind fun bt169 => (if bt169.2 = 0 then ((bpoly_Generator.f k a0).bind fun bt171 => (if 0 ≤ (wrap64 (bt169.1 + 1)) then (if (wrap64 (bt169.1 + 1) : Int).toNat ≤ 281474976710656 then ((some (List.replicate (wrap64 (bt169.1 + 1) : Int).toNat 0 : List Int)).bind fun y175 => (if 0 ≤ (Int.tmod (wrap64 (13 * a0)) 8) then (if 0 ≤ (wrap64 (Int.tdiv (wrap64 (13 * a0)) 8)) then (if (wrap64 (Int.tdiv (wrap64 (13 * a0)) 8)) < (y175.length : Int) then ((bpoly_Mul.f k (y175.set ((wrap64 (Int.tdiv (wrap64 (13 * a0)) 8)) : Int).toNat (shl .u8 1 (Int.tmod (wrap64 (13 * a0)) 8))) l1).bind fun t179 => ((bpoly_Mod.f k t179 bt171.1).bind fun bt182 => (if 0 ≤ (wrap64 (bt169.1 - (bt182.1.length : Int))) then (if bt182.1.length + (wrap64 (bt169.1 - (bt182.1.length : Int)) : Int).toNat < 140737488355328 then (some ((bt182.1 ++ List.replicate (wrap64 (bt169.1 - (bt182.1.length : Int)) : Int).toNat 0), 0)) else (none)) else (none)))) else (none)) else (none)) else (none))) else (none)) else (none))) else (some (([] : List Int), bt169.2)))) = some (r1, r2) := h
  clear h
  replace H := Option.bind_eq_some_iff.mp H
  obtain ⟨⟨t169, t170⟩, A30, H⟩ := H
  replace H : (if t170 = 0 then ((bpoly_Generator.f k a0).bind fun bt171 => (if 0 ≤ (wrap64 (t169 + 1)) then (if (wrap64 (t169 + 1) : Int).toNat ≤ 281474976710656 then ((some (List.replicate (wrap64 (t169 + 1) : Int).toNat 0 : List Int)).bind fun y175 => (if 0 ≤ (Int.tmod (wrap64 (13 * a0)) 8) then (if 0 ≤ (wrap64 (Int.tdiv (wrap64 (13 * a0)) 8)) then (if (wrap64 (Int.tdiv (wrap64 (13 * a0)) 8)) < (y175.length : Int) then ((bpoly_Mul.f k (y175.set ((wrap64 (Int.tdiv (wrap64 (13 * a0)) 8)) : Int).toNat (shl .u8 1 (Int.tmod (wrap64 (13 * a0)) 8))) l1).bind fun t179 => ((bpoly_Mod.f k t179 bt171.1).bind fun bt182 => (if 0 ≤ (wrap64 (t169 - (bt182.1.length : Int))) then (if bt182.1.length + (wrap64 (t169 - (bt182.1.length : Int)) : Int).toNat < 140737488355328 then (some ((bt182.1 ++ List.replicate (wrap64 (t169 - (bt182.1.length : Int)) : Int).toNat 0), 0)) else (none)) else (none)))) else (none)) else (none)) else (none))) else (none)) else (none))) else (some (([] : List Int), t170))) = some (r1, r2) := H
  have A3 := Aside0.mk A30
  clear A30
  by_cases c4 : t170 = 0
  · rw [if_pos c4] at H
    have c4b0 : (t170 == 0) = true := beq_iff_eq.mpr c4
    have c4b1 : (t170 != 0) = false := bne_eq_false_iff_eq.mpr c4
    clear c4
    replace H := Option.bind_eq_some_iff.mp H
    obtain ⟨⟨t171, t174⟩, A50, H⟩ := H
    replace H : (if 0 ≤ (wrap64 (t169 + 1)) then (if (wrap64 (t169 + 1) : Int).toNat ≤ 281474976710656 then ((some (List.replicate (wrap64 (t169 + 1) : Int).toNat 0 : List Int)).bind fun y175 => (if 0 ≤ (Int.tmod (wrap64 (13 * a0)) 8) then (if 0 ≤ (wrap64 (Int.tdiv (wrap64 (13 * a0)) 8)) then (if (wrap64 (Int.tdiv (wrap64 (13 * a0)) 8)) < (y175.length : Int) then ((bpoly_Mul.f k (y175.set ((wrap64 (Int.tdiv (wrap64 (13 * a0)) 8)) : Int).toNat (shl .u8 1 (Int.tmod (wrap64 (13 * a0)) 8))) l1).bind fun t179 => ((bpoly_Mod.f k t179 t171).bind fun bt182 => (if 0 ≤ (wrap64 (t169 - (bt182.1.length : Int))) then (if bt182.1.length + (wrap64 (t169 - (bt182.1.length : Int)) : Int).toNat < 140737488355328 then (some ((bt182.1 ++ List.replicate (wrap64 (t169 - (bt182.1.length : Int)) : Int).toNat 0), 0)) else (none)) else (none)))) else (none)) else (none)) else (none))) else (none)) else (none)) = some (r1, r2) := H
    have A5 := Aside0.mk A50
    clear A50
    obtain ⟨ji6, hji6⟩ : ∃ j_ : Int, (wrap64 (t169 + 1)) = j_ := ⟨_, rfl⟩
    replace H : (if 0 ≤ (ji6) then (if (ji6 : Int).toNat ≤ 281474976710656 then ((some (List.replicate (ji6 : Int).toNat 0 : List Int)).bind fun y175 => (if 0 ≤ (Int.tmod (wrap64 (13 * a0)) 8) then (if 0 ≤ (wrap64 (Int.tdiv (wrap64 (13 * a0)) 8)) then (if (wrap64 (Int.tdiv (wrap64 (13 * a0)) 8)) < (y175.length : Int) then ((bpoly_Mul.f k (y175.set ((wrap64 (Int.tdiv (wrap64 (13 * a0)) 8)) : Int).toNat (shl .u8 1 (Int.tmod (wrap64 (13 * a0)) 8))) l1).bind fun t179 => ((bpoly_Mod.f k t179 t171).bind fun bt182 => (if 0 ≤ (wrap64 (t169 - (bt182.1.length : Int))) then (if bt182.1.length + (wrap64 (t169 - (bt182.1.length : Int)) : Int).toNat < 140737488355328 then (some ((bt182.1 ++ List.replicate (wrap64 (t169 - (bt182.1.length : Int)) : Int).toNat 0), 0)) else (none)) else (none)))) else (none)) else (none)) else (none))) else (none)) else (none)) = some (r1, r2) := by first | (rw [hji6] at H; exact H) | (simp only [hji6] at H ⊢; exact H)
    (try rw [hji6] at A3)
    (try rw [hji6] at A5)
    have hji6w : (IntKind.i64.wrap (t169 + 1)) = ji6 := (i64_w _).trans hji6
    by_cases c7 : 0 ≤ (ji6)
    · rw [if_pos c7] at H
      have c7b0 := eq_true c7
      have c7b1 : decide (0 ≤ (ji6)) = true := decide_eq_true c7
      clear c7
      by_cases c8 : (ji6 : Int).toNat ≤ 281474976710656
      · rw [if_pos c8] at H
        have c8b0 := eq_true c8
        have c8b1 : decide ((ji6 : Int).toNat ≤ 281474976710656) = true := decide_eq_true c8
        clear c8
        obtain ⟨y175, hy175⟩ : ∃ y_ : List Int, y_ = (List.replicate (ji6 : Int).toNat 0) := ⟨_, rfl⟩
        replace H : (if 0 ≤ (Int.tmod (wrap64 (13 * a0)) 8) then (if 0 ≤ (wrap64 (Int.tdiv (wrap64 (13 * a0)) 8)) then (if (wrap64 (Int.tdiv (wrap64 (13 * a0)) 8)) < (y175.length : Int) then ((bpoly_Mul.f k (y175.set ((wrap64 (Int.tdiv (wrap64 (13 * a0)) 8)) : Int).toNat (shl .u8 1 (Int.tmod (wrap64 (13 * a0)) 8))) l1).bind fun t179 => ((bpoly_Mod.f k t179 t171).bind fun bt182 => (if 0 ≤ (wrap64 (t169 - (bt182.1.length : Int))) then (if bt182.1.length + (wrap64 (t169 - (bt182.1.length : Int)) : Int).toNat < 140737488355328 then (some ((bt182.1 ++ List.replicate (wrap64 (t169 - (bt182.1.length : Int)) : Int).toNat 0), 0)) else (none)) else (none)))) else (none)) else (none)) else (none)) = some (r1, r2) := by first | (rw [hy175]; with_reducible exact H) | (have H2_ := (Option.bind_some _ _).symm.trans H; rw [hy175]; with_reducible exact H2_) | (have H2_ := (Option.bind_some _ _).symm.trans H; with_reducible exact H2_) | with_reducible exact H | (rw [hy175]; exact H) | exact H
        have Ny175 := Aside0.mk hy175
        clear hy175
        obtain ⟨ji9, hji9⟩ : ∃ j_ : Int, (Int.tmod (wrap64 (13 * a0)) 8) = j_ := ⟨_, rfl⟩
        replace H : (if 0 ≤ (ji9) then (if 0 ≤ (wrap64 (Int.tdiv (wrap64 (13 * a0)) 8)) then (if (wrap64 (Int.tdiv (wrap64 (13 * a0)) 8)) < (y175.length : Int) then ((bpoly_Mul.f k (y175.set ((wrap64 (Int.tdiv (wrap64 (13 * a0)) 8)) : Int).toNat (shl .u8 1 (ji9))) l1).bind fun t179 => ((bpoly_Mod.f k t179 t171).bind fun bt182 => (if 0 ≤ (wrap64 (t169 - (bt182.1.length : Int))) then (if bt182.1.length + (wrap64 (t169 - (bt182.1.length : Int)) : Int).toNat < 140737488355328 then (some ((bt182.1 ++ List.replicate (wrap64 (t169 - (bt182.1.length : Int)) : Int).toNat 0), 0)) else (none)) else (none)))) else (none)) else (none)) else (none)) = some (r1, r2) := by first | (rw [hji9] at H; exact H) | (simp only [hji9] at H ⊢; exact H)
        (try rw [hji9] at A3)
        (try rw [hji9] at A5)
        by_cases c10 : 0 ≤ (ji9)
        · rw [if_pos c10] at H
          have c10b0 := eq_true c10
          have c10b1 : decide (0 ≤ (ji9)) = true := decide_eq_true c10
          clear c10
          obtain ⟨ji11, hji11⟩ : ∃ j_ : Int, (shl .u8 1 (ji9)) = j_ := ⟨_, rfl⟩
          replace H : (if 0 ≤ (wrap64 (Int.tdiv (wrap64 (13 * a0)) 8)) then (if (wrap64 (Int.tdiv (wrap64 (13 * a0)) 8)) < (y175.length : Int) then ((bpoly_Mul.f k (y175.set ((wrap64 (Int.tdiv (wrap64 (13 * a0)) 8)) : Int).toNat (ji11)) l1).bind fun t179 => ((bpoly_Mod.f k t179 t171).bind fun bt182 => (if 0 ≤ (wrap64 (t169 - (bt182.1.length : Int))) then (if bt182.1.length + (wrap64 (t169 - (bt182.1.length : Int)) : Int).toNat < 140737488355328 then (some ((bt182.1 ++ List.replicate (wrap64 (t169 - (bt182.1.length : Int)) : Int).toNat 0), 0)) else (none)) else (none)))) else (none)) else (none)) = some (r1, r2) := by first | (rw [hji11] at H; exact H) | (simp only [hji11] at H ⊢; exact H)
          (try rw [hji11] at A3)
          (try rw [hji11] at A5)
          have hji11_ : (IntKind.u8.wrap (1 * 2 ^ min (ji9).toNat 8)) = ji11 := hji11
          have hji11z : (ji9) ≤ 8 → (IntKind.u8.wrap (1 * 2 ^ (ji9).toNat)) = ji11 := shl_small hji11
          have hji11u : (IntKind.u8.wrap (2 ^ min (ji9).toNat 8)) = ji11 := by have h_ := hji11_; rw [Int.one_mul] at h_; exact h_
          have hji11v : (ji9) ≤ 8 → (IntKind.u8.wrap (2 ^ (ji9).toNat)) = ji11 := fun hle_ => by have h_ := hji11z hle_; rw [Int.one_mul] at h_; exact h_
          obtain ⟨ji12, hji12⟩ : ∃ j_ : Int, (wrap64 (Int.tdiv (wrap64 (13 * a0)) 8)) = j_ := ⟨_, rfl⟩
          replace H : (if 0 ≤ (ji12) then (if (ji12) < (y175.length : Int) then ((bpoly_Mul.f k (y175.set ((ji12) : Int).toNat (ji11)) l1).bind fun t179 => ((bpoly_Mod.f k t179 t171).bind fun bt182 => (if 0 ≤ (wrap64 (t169 - (bt182.1.length : Int))) then (if bt182.1.length + (wrap64 (t169 - (bt182.1.length : Int)) : Int).toNat < 140737488355328 then (some ((bt182.1 ++ List.replicate (wrap64 (t169 - (bt182.1.length : Int)) : Int).toNat 0), 0)) else (none)) else (none)))) else (none)) else (none)) = some (r1, r2) := by first | (rw [hji12] at H; exact H) | (simp only [hji12] at H ⊢; exact H)
          (try rw [hji12] at A3)
          (try rw [hji12] at A5)
          have hji12w : (IntKind.i64.wrap (Int.tdiv (wrap64 (13 * a0)) 8)) = ji12 := (i64_w _).trans hji12
          by_cases c13 : 0 ≤ (ji12)
          · rw [if_pos c13] at H
            have c13b0 : decide (0 ≤ (ji12)) = true := decide_eq_true c13
            clear c13
            by_cases c14 : (ji12) < (y175.length : Int)
            · rw [if_pos c14] at H
              have c14b0 : decide ((ji12) < (y175.length : Int)) = true := decide_eq_true c14
              clear c14
              obtain ⟨y178, hy178⟩ : ∃ y_ : List Int, y_ = (y175.set ((ji12) : Int).toNat (ji11)) := ⟨_, rfl⟩
              replace H : ((bpoly_Mul.f k y178 l1).bind fun t179 => ((bpoly_Mod.f k t179 t171).bind fun bt182 => (if 0 ≤ (wrap64 (t169 - (bt182.1.length : Int))) then (if bt182.1.length + (wrap64 (t169 - (bt182.1.length : Int)) : Int).toNat < 140737488355328 then (some ((bt182.1 ++ List.replicate (wrap64 (t169 - (bt182.1.length : Int)) : Int).toNat 0), 0)) else (none)) else (none)))) = some (r1, r2) := by first | (rw [hy178]; with_reducible exact H) | (have H2_ := (Option.bind_some _ _).symm.trans H; rw [hy178]; with_reducible exact H2_) | (have H2_ := (Option.bind_some _ _).symm.trans H; with_reducible exact H2_) | with_reducible exact H | (rw [hy178]; exact H) | exact H
              have Ny178 := Aside0.mk hy178
              clear hy178
              replace H := Option.bind_eq_some_iff.mp H
              obtain ⟨t179, A160, H⟩ := H
              replace H : ((bpoly_Mod.f k t179 t171).bind fun bt182 => (if 0 ≤ (wrap64 (t169 - (bt182.1.length : Int))) then (if bt182.1.length + (wrap64 (t169 - (bt182.1.length : Int)) : Int).toNat < 140737488355328 then (some ((bt182.1 ++ List.replicate (wrap64 (t169 - (bt182.1.length : Int)) : Int).toNat 0), 0)) else (none)) else (none))) = some (r1, r2) := H
              have A16 := Aside0.mk A160
              clear A160
              replace H := Option.bind_eq_some_iff.mp H
              obtain ⟨⟨t182, t183⟩, A170, H⟩ := H
              replace H : (if 0 ≤ (wrap64 (t169 - (t182.length : Int))) then (if t182.length + (wrap64 (t169 - (t182.length : Int)) : Int).toNat < 140737488355328 then (some ((t182 ++ List.replicate (wrap64 (t169 - (t182.length : Int)) : Int).toNat 0), 0)) else (none)) else (none)) = some (r1, r2) := H
              have A17 := Aside0.mk A170
              clear A170
              obtain ⟨ji18, hji18⟩ : ∃ j_ : Int, (wrap64 (t169 - (t182.length : Int))) = j_ := ⟨_, rfl⟩
              replace H : (if 0 ≤ (ji18) then (if t182.length + (ji18 : Int).toNat < 140737488355328 then (some ((t182 ++ List.replicate (ji18 : Int).toNat 0), 0)) else (none)) else (none)) = some (r1, r2) := by first | (rw [hji18] at H; exact H) | (simp only [hji18] at H ⊢; exact H)
              (try rw [hji18] at A3)
              (try rw [hji18] at A5)
              (try rw [hji18] at A16)
              (try rw [hji18] at A17)
              have hji18w : (IntKind.i64.wrap (t169 - (t182.length : Int))) = ji18 := (i64_w _).trans hji18
              by_cases c19 : 0 ≤ (ji18)
              · rw [if_pos c19] at H
                have c19b0 := eq_true c19
                have c19b1 : decide (0 ≤ (ji18)) = true := decide_eq_true c19
                clear c19
                by_cases c20 : t182.length + (ji18 : Int).toNat < 140737488355328
                · rw [if_pos c20] at H
                  have LMc20 := Aside0.mk c20
                  clear c20
                  obtain ⟨y186, hy186⟩ : ∃ y_ : List Int, y_ = (t182 ++ List.replicate (ji18 : Int).toNat 0) := ⟨_, rfl⟩
                  replace H : (some (y186, 0)) = some (r1, r2) := by first | (rw [hy186]; with_reducible exact H) | (have H2_ := (Option.bind_some _ _).symm.trans H; rw [hy186]; with_reducible exact H2_) | (have H2_ := (Option.bind_some _ _).symm.trans H; with_reducible exact H2_) | with_reducible exact H | (rw [hy186]; exact H) | exact H
                  have Ny186 := Aside0.mk hy186
                  clear hy186
                  simp only [Option.some.injEq, Prod.mk.injEq] at H
                  obtain ⟨rfl, rfl⟩ := H
                  go_enter Try.func11, Try.ntmps11
                  go_wp2_with (first | ((with_reducible refine gate_callee (f := 27) rfl ?_); refine goesL_ (some 16) rfl rfl Try.func27 (by kernel_rfl) rfl #[.int .i64 a0, .slice A1 l1.length c1] rfl (by (try simp only [List.map_toArray, List.map_cons, List.map_nil]); first | done | rfl | (simp only [List.length_drop, List.length_take]; rfl)) ?_; (with_reducible refine (bch_size.calls a0 _ _ l1 t169 t170 _ ?side1 ?side2 A3.out).mono ?_); (case side1 => repeat (first | exact HR1.out | (with_reducible refine Kd.C_alloc ?_ _) | (with_reducible refine Kd.C_drewN ?_ _) | (with_reducible refine Kd.C_drew ?_))); (case side2 => exact HC1.out); rintro e w' ⟨rfl, ⟨nd, rfl⟩⟩; refine ⟨_, rfl, ?_⟩) | ((with_reducible refine gate_callee (f := 28) rfl ?_); refine goesL_ (some 24) rfl rfl Try.func28 (by kernel_rfl) rfl #[.int .i64 a0] rfl (by (try simp only [List.map_toArray, List.map_cons, List.map_nil]); first | done | rfl | (simp only [List.length_drop, List.length_take]; rfl)) ?_; (with_reducible refine (bpoly_Generator.calls k a0 t171 t174 _ A5.out).mono ?_); rintro e w21 ⟨v172, rfl, ho0, hb⟩; refine ⟨_, rfl, ?_⟩; have n0_ := Aside0.mk (Kd.V_lower (Kd.V_mono (ok' := fun k_ => True) ho0 (fun k_ hk_ => trivial)) (below_size (by repeat (first | (with_reducible first | exact HB.out | apply below_alloc | apply pw_below_drewN | apply below_drew1) | exact HB.out)))); have n1_ := Aside0.mk (below_step (by repeat (first | (with_reducible first | exact HB.out | apply below_alloc | apply pw_below_drewN | apply below_drew1) | exact HB.out)) hb); clear HB; have HO173 := n0_; have HB := n1_; clear n0_ n1_; (try clear hb); (try clear hb2); (try clear hk); (try clear hi); (try clear ho0)) | ((with_reducible refine gate_dst (N := 29) rfl ?_); refine Kd.R_make (Kd.int .u8) _ 5 rfl (N := 29) rfl 22 _ _ rfl ji6 rfl rfl Try.underlying22 (.int .u8 0) 1 info5 rfl (by decide) (by omega) 0 (ok := fun _ => True) (okp := fun _ => True) rfl (fun _ hk => hk) trivial (of_decide_eq_true (by first | (with_reducible assumption) | assumption)) (Nat.le_trans (Nat.mul_le_mul_right _ (of_decide_eq_true (by first | (with_reducible assumption) | assumption) : ji6.toNat ≤ 281474976710656)) (by omega)) (Below.refl _ _) (Nat.le_refl _) ?_; intro v176 w22 ho23 hb hg_ hnew_; clear hg_ hnew_; (first | rw [← Ny175.out] at ho23 | (simp only [Int.reduceToNat] at ho23; rw [← Ny175.out] at ho23)); have n0_ := Aside0.mk (Kd.V_elder' (by (with_reducible repeat (first | apply Kd.V_alloc | apply Kd.V_drewN | apply Kd.V_drew)); exact HO173.out) (Kd.R_base ho23) hb); have n1_ := Aside0.mk (Kd.R_lower ho23 (below_size (by repeat (first | (with_reducible first | exact HB.out | apply below_alloc | apply pw_below_drewN | apply below_drew1) | exact HB.out)))); have n2_ := Aside0.mk (below_step (by repeat (first | (with_reducible first | exact HB.out | apply below_alloc | apply pw_below_drewN | apply below_drew1) | exact HB.out)) hb); clear HO173; clear HB; have HO173 := n0_; have HO177 := n1_; have HB := n2_; clear n0_ n1_ n2_; clear hb ho23; have p15 : 0 ≤ ((ji12) : Int) := of_decide_eq_true (by first | (with_reducible assumption) | assumption); have q15 : ((ji12) : Int) < ((y175.length : Int) : Int) := of_decide_eq_true (by first | (with_reducible assumption) | assumption); obtain ⟨go15, co15, eo15, gb15, gl15, cl15, HG15⟩ := Kd.R_form HO177.out (by omega); (first | cases eo15 | (injection eo15 with ea_ en_ ec_; (first | subst ea_ | (injection ea_ with ea_; subst ea_)); subst ec_; clear en_)); have GB15 := Aside0.mk gb15; have GG15 := Aside0.mk HG15; clear gb15 gl15 HG15; obtain ⟨hx15_0, hf15_0⟩ := Kd.R_celln 0 HO177.out ((ji12) : Int) p15 q15; replace p15 := eq_true p15; replace q15 := eq_true q15; obtain ⟨hy24_, hz24_⟩ := Kd.R_celln 0 HO177.out ((ji12) : Int) (of_decide_eq_true (by first | (with_reducible assumption) | assumption)) (of_decide_eq_true (by first | (with_reducible assumption) | assumption)); have HP24 := Kd.R_putg HO177.out ((ji12) : Int) ji11) | ((with_reducible refine gate_store (t := 5) (p := 38) rfl ?_); refine store_event (t := 5) (p := 38) (v := ?vo_w25) (w1 := (w22.setCell ⟨go15, ((ji12) : Int).toNat, none⟩ (.int .u8 ji11))) ?hg ?ho ?hn ?hr ?_; (case ho => rfl); (case hg => rfl); (case hn => rfl); (case hr => first | (go_simp; done) | (go_simp; rfl)); intro w25 hw; have hg : w22.grownBy w25 (some go15) := (by rw [hw]; exact HP24.2); have hp_ : Kd.R (Kd.int .u8) 5 w25 w.heap.size (fun _ => True) (.slice (some ⟨go15, 0, none⟩) y175.length co15) y178 := (by rw [hw, Ny178.out]; exact HP24.1); clear HP24; have n0_ := Aside0.mk (Kd.V_afterv (v := (.slice (some ⟨go15, 0, none⟩) y175.length co15)) (v1 := (.slice (some ⟨go15, 0, none⟩) y175.length co15)) (ok := (fun _ => True)) (by (with_reducible repeat (first | apply Kd.V_alloc | apply Kd.V_drewN | apply Kd.V_drew)); exact HO173.out) hg (.inl rfl)); have n1_ := Aside0.mk (hp_); have n2_ := Aside0.mk ((by rw [hw]; exact below_set (HB.out) GB15.out : Below w.heap.size w w25)); clear HO173; clear HO177; clear HB; have HO173 := n0_; have HO177 := n1_; have HB := n2_; clear n0_ n1_ n2_; clear hg hw hp_) | ((with_reducible refine gate_callee (f := 30) rfl ?_); refine goesL_ (some 42) rfl rfl Try.func30 (by kernel_rfl) rfl #[.slice (some ⟨go15, 0, none⟩) y178.length co15, .slice A1 l1.length c1] rfl (by (try simp only [List.map_toArray, List.map_cons, List.map_nil]); first | done | (rw [show y178.length = y175.length from (Kd.R_reads' HO177.out).1.symm] <;> rfl) | rfl | (simp only [List.length_drop, List.length_take]; rfl)) ?_; (with_reducible refine (bpoly_Mul.calls k _ _ y178 _ _ l1 t179 _ ?side1 ?side2 ?side3 ?side4 A16.out).mono ?_); (case side1 => repeat (first | exact (Kd.R_reads' HO177.out).2.2 | (with_reducible refine Kd.C_alloc ?_ _) | (with_reducible refine Kd.C_drewN ?_ _) | (with_reducible refine Kd.C_drew ?_))); (case side2 => rw [show y178.length = y175.length from (Kd.R_reads' HO177.out).1.symm]; exact (Kd.R_reads' HO177.out).2.1); (case side3 => repeat (first | exact (Kd.C_below HR1.out HB.out) | (with_reducible refine Kd.C_alloc ?_ _) | (with_reducible refine Kd.C_drewN ?_ _) | (with_reducible refine Kd.C_drew ?_))); (case side4 => exact HC1.out); rintro e w26 ⟨v180, rfl, ho0, hb⟩; refine ⟨_, rfl, ?_⟩; have n0_ := Aside0.mk (Kd.V_below (by (with_reducible repeat (first | apply Kd.V_alloc | apply Kd.V_drewN | apply Kd.V_drew)); exact HO173.out) hb); have n1_ := Aside0.mk (Kd.R_below (by (with_reducible repeat (first | apply Kd.R_alloc | apply Kd.R_drewN | apply Kd.R_drew)); exact HO177.out) hb); have n2_ := Aside0.mk (Kd.V_lower (Kd.V_mono (ok' := fun k_ => some k_ ≠ (.slice (some ⟨go15, 0, none⟩) y175.length co15 : Value).ownBlock) ho0 (fun k_ hk_ => (Kd.fresh' (Kd.R_lt (by (with_reducible repeat (first | apply Kd.R_alloc | apply Kd.R_drewN | apply Kd.R_drew)); exact HO177.out)) k_ hk_))) (below_size (by repeat (first | (with_reducible first | exact HB.out | apply below_alloc | apply pw_below_drewN | apply below_drew1) | exact HB.out)))); have n3_ := Aside0.mk (below_step (by repeat (first | (with_reducible first | exact HB.out | apply below_alloc | apply pw_below_drewN | apply below_drew1) | exact HB.out)) hb); clear HO173; clear HO177; clear HB; have HO173 := n0_; have HO177 := n1_; have HO181 := n2_; have HB := n3_; clear n0_ n1_ n2_ n3_; (try clear hb); (try clear hb2); (try clear hk); (try clear hi); (try clear ho0); obtain ⟨Ao27, co27, eo27⟩ := Kd.V_slice HO181.out; subst eo27; obtain ⟨Ao28, co28, eo28⟩ := Kd.V_slice HO173.out; subst eo28) | ((with_reducible refine gate_callee (f := 29) rfl ?_); refine goesL_ (some 44) rfl rfl Try.func29 (by kernel_rfl) rfl #[.slice Ao27 t179.length co27, .slice Ao28 t171.length co28] rfl (by (try simp only [List.map_toArray, List.map_cons, List.map_nil]); first | done | rfl | (simp only [List.length_drop, List.length_take]; rfl)) ?_; (with_reducible refine (bpoly_Mod.calls k _ _ t179 _ _ t171 t182 t183 _ ?side1 ?side2 ?side3 ?side4 A17.out).mono ?_); (case side1 => repeat (first | exact (Kd.V_reads' HO181.out).2.2 | (with_reducible refine Kd.C_alloc ?_ _) | (with_reducible refine Kd.C_drewN ?_ _) | (with_reducible refine Kd.C_drew ?_))); (case side2 => exact (Kd.V_reads' HO181.out).2.1); (case side3 => repeat (first | exact (Kd.V_reads' HO173.out).2.2 | (with_reducible refine Kd.C_alloc ?_ _) | (with_reducible refine Kd.C_drewN ?_ _) | (with_reducible refine Kd.C_drew ?_))); (case side4 => exact (Kd.V_reads' HO173.out).2.1); rintro e w29 ⟨v184, rfl, ho0, hb⟩; refine ⟨_, rfl, ?_⟩; have n0_ := Aside0.mk (Kd.V_elder' (by (with_reducible repeat (first | apply Kd.V_alloc | apply Kd.V_drewN | apply Kd.V_drew)); exact HO173.out) (Kd.R_base ho0) hb); have n1_ := Aside0.mk (Kd.R_elder' (by (with_reducible repeat (first | apply Kd.R_alloc | apply Kd.R_drewN | apply Kd.R_drew)); exact HO177.out) (Kd.R_base ho0) hb); have n2_ := Aside0.mk (Kd.V_elder' (by (with_reducible repeat (first | apply Kd.V_alloc | apply Kd.V_drewN | apply Kd.V_drew)); exact HO181.out) (Kd.R_base ho0) hb); have n3_ := Aside0.mk (Kd.R_lower (Kd.R_new' ho0 (Kd.R_lt (by (with_reducible repeat (first | apply Kd.R_alloc | apply Kd.R_drewN | apply Kd.R_drew)); exact HO177.out))) (below_size (by repeat (first | (with_reducible first | exact HB.out | apply below_alloc | apply pw_below_drewN | apply below_drew1) | exact HB.out)))); have n4_ := Aside0.mk (below_step (by repeat (first | (with_reducible first | exact HB.out | apply below_alloc | apply pw_below_drewN | apply below_drew1) | exact HB.out)) hb); clear HO173; clear HO177; clear HO181; clear HB; have HO173 := n0_; have HO177 := n1_; have HO181 := n2_; have HO185 := n3_; have HB := n4_; clear n0_ n1_ n2_ n3_ n4_; (try clear hb); (try clear hb2); (try clear hk); (try clear hi); (try clear ho0); obtain ⟨Ao30, co30, eo30⟩ := Kd.R_slice HO185.out; subst eo30) | (at_builtin; refine Kd.R_append_zeros (Kd.int .u8) (w0 := w) w.heap.size rfl (.tmp 47) (.tmp 51) 22 3 5 (.int .u8 0) 1 rfl Try.underlying22 Try.underlying3 info5 rfl (by decide) (by omega) (.slice Ao30 t182.length co30) t182 0 (ji18 : Int) (fun k_ => some k_ ≠ (.slice (some ⟨go15, 0, none⟩) y175.length co15 : Value).ownBlock) rfl rfl rfl ?aF ?aO (of_decide_eq_true (by first | (with_reducible assumption) | assumption)) ?aB ?aS ?aL ?_; (case aB => exact (by repeat (first | (with_reducible first | exact HB.out | apply below_alloc | apply pw_below_drewN | apply below_drew1) | exact HB.out))); (case aF => exact (fun k_ hk => Kd.fresh' (Kd.R_lt (by (with_reducible repeat (first | apply Kd.R_alloc | apply Kd.R_drewN | apply Kd.R_drew)); exact HO177.out)) k_ hk)); (case aO => exact (by (with_reducible repeat (first | apply Kd.R_alloc | apply Kd.R_drewN | apply Kd.R_drew)); exact Kd.R_mono HO185.out (fun _ hk => hk.2))); (case aS => exact (below_size (by repeat (first | (with_reducible first | exact HB.out | apply below_alloc | apply pw_below_drewN | apply below_drew1) | exact HB.out)))); (case aL => have := LMc20.out; omega); intro v187 w31 ho hb hg hat; rw [← Ny186.out] at ho; have n0_ := Aside0.mk (Kd.V_afterv (ok := (fun k_ => some k_ ≠ (.slice (some ⟨go15, 0, none⟩) y175.length co15 : Value).ownBlock)) (by (with_reducible repeat (first | apply Kd.V_alloc | apply Kd.V_drewN | apply Kd.V_drew)); exact Kd.V_mono HO173.out (fun _ hk => ⟨hk.1.2, hk.2⟩)) hg hat); have n1_ := Aside0.mk (Kd.R_after (ok := (fun _ => True)) (by (with_reducible repeat (first | apply Kd.R_alloc | apply Kd.R_drewN | apply Kd.R_drew)); exact HO177.out) hg hat); have n2_ := Aside0.mk (Kd.V_afterv (ok := (fun k_ => some k_ ≠ (.slice (some ⟨go15, 0, none⟩) y175.length co15 : Value).ownBlock)) (by (with_reducible repeat (first | apply Kd.V_alloc | apply Kd.V_drewN | apply Kd.V_drew)); exact HO181.out) hg hat); have n3_ := Aside0.mk (hb); have n4_ := Aside0.mk (ho); clear HO173; clear HO177; clear HO181; clear HB; clear HO185; have HO173 := n0_; have HO177 := n1_; have HO181 := n2_; have HB := n3_; have HO188 := n4_; clear n0_ n1_ n2_ n3_ n4_; clear ho hb hg hat))
                  go_ret2
                  exact ⟨_, by first | rfl | (simp [errW_none, errW_some] <;> rfl) | (simp only [← hji6, ← hji9, ← hji11, ← hji12, ← hji18]; first | rfl | (simp [errW_none, errW_some] <;> rfl)) | (simp [*, errW_none, errW_some] <;> rfl), by (with_reducible repeat (first | apply Kd.R_alloc | apply Kd.R_drewN | apply Kd.R_drew)); exact Kd.R_mono HO188.out (fun _ hk => trivial), by repeat (first | (with_reducible first | exact HB.out | apply below_alloc | apply pw_below_drewN | apply below_drew1) | exact HB.out)⟩
                · rw [if_neg c20] at H
                  exact absurd H (by simp)
              · rw [if_neg c19] at H
                exact absurd H (by simp)
            · rw [if_neg c14] at H
              exact absurd H (by simp)
          · rw [if_neg c13] at H
            exact absurd H (by simp)
        · rw [if_neg c10] at H
          exact absurd H (by simp)
      · rw [if_neg c8] at H
        exact absurd H (by simp)
    · rw [if_neg c7] at H
      exact absurd H (by simp)
  · rw [if_neg c4] at H
    have c4b0 : (t170 == 0) = false := beq_eq_false_iff_ne.mpr c4
    have c4b1 : (t170 != 0) = true := bne_iff_ne.mpr c4
    simp only [Option.some.injEq, Prod.mk.injEq] at H
    obtain ⟨rfl, rfl⟩ := H
    go_enter Try.func11, Try.ntmps11
    go_wp2_with (first | ((with_reducible refine gate_callee (f := 27) rfl ?_); refine goesL_ (some 16) rfl rfl Try.func27 (by kernel_rfl) rfl #[.int .i64 a0, .slice A1 l1.length c1] rfl (by (try simp only [List.map_toArray, List.map_cons, List.map_nil]); first | done | rfl | (simp only [List.length_drop, List.length_take]; rfl)) ?_; (with_reducible refine (bch_size.calls a0 _ _ l1 t169 t170 _ ?side1 ?side2 A3.out).mono ?_); (case side1 => repeat (first | exact HR1.out | (with_reducible refine Kd.C_alloc ?_ _) | (with_reducible refine Kd.C_drewN ?_ _) | (with_reducible refine Kd.C_drew ?_))); (case side2 => exact HC1.out); rintro e w' ⟨rfl, ⟨nd, rfl⟩⟩; refine ⟨_, rfl, ?_⟩))
    go_ret2
    exact ⟨_, by first | rfl | (simp [errW_none, errW_some] <;> rfl) | (simp [*, errW_none, errW_some] <;> rfl), by first | exact Kd.R_nil _ _ _ _ _ | exact Kd.N_nil _ _ _ _ _ | exact Kd.V_nil _ _ _ _ _ | exact Kd.Q_nil _ _ _ _ _ | exact Kd.S_nil _ _ _ _ _, by repeat (first | (with_reducible first | exact HB.out | apply below_alloc | apply pw_below_drewN | apply below_drew1) | exact HB.out)⟩
theorem clinfo_u8 : (Try.prog.info? 5).map (fun i => (i.zero, i.size, i.bytes)) = some (some (.int .u8 0), 1, 1) := by kernel_rfl
theorem clinfo_i : (Try.prog.info? 3).map (fun i => (i.zero, i.size, i.bytes)) = some (some (.int .i64 0), 1, 8) := by kernel_rfl
theorem cl_cells {k : IntKind} {w : World} {A : Option Addr} {n : Nat} {xs : List Int} (h : Kd.C (Kd.int k) w A n xs) (hn : xs.length = n) (h0 : 0 < n) : ∃ ad, A = some ad ∧ ∀ j u, (encs (Value.int k) xs)[j]? = some u → w.cell? (ad.add j) = some u := by
  obtain ⟨ad, hA, _⟩ := Kd.at_int h 0 (by omega) (by omega)
  refine ⟨ad, hA, fun j u hu => ?_⟩
  have hj : j < xs.length := by
    have := (List.getElem?_eq_some_iff.1 hu).1
    simpa [encs] using this
  obtain ⟨ad', hA', hc⟩ := Kd.at_int h (j : Int) (by omega) (by omega)
  rw [hA] at hA'
  cases hA'
  rw [Int.toNat_natCast] at hc
  rw [hc]
  simp only [encs, List.getElem?_map, List.getElem?_eq_getElem hj, Option.map_some, Option.some.injEq] at hu
  rw [← hu]
  simp [rd, List.getElem?_eq_getElem hj]
theorem cl_al {w : World} {p : Addr} {v : Value} (o : Obj) (h : w.cell? p = some v) : (w.alloc o).cell? p = some v := ((below_alloc (Below.refl _ w) o).cell (World.block_lt_of_cell? w _ h)).trans h
theorem cl_empty (w : World) (e : TypeId) : (w.alloc (.cells #[] e)).ownsRow w.heap.size e 1 (.slice (some ⟨w.heap.size, 0, none⟩) 0 0) 0 [] :=
  ⟨rfl, .inr ⟨w.heap.size, 0, #[], rfl, Nat.le_refl _, heap_alloc_new w _, Nat.le_refl _, by decide, rfl, rfl⟩⟩
theorem cl_one (x : List Int) {k : IntKind} : ∀ u ∈ encs (Value.int k) x, u.oneCell' = true := by
  intro u hu
  simp only [encs, List.mem_map] at hu
  obtain ⟨y, _, rfl⟩ := hu
  rfl
theorem cl_below (w : World) (e : TypeId) {w1 : World} (h : (w.alloc (.cells #[] e)).grownBy w1 (Value.slice (some ⟨w.heap.size, 0, none⟩) 0 0).ownBlock) : Below w.heap.size w w1 :=
  (below_alloc (Below.refl _ w) _).grown h (by simp) (fun k hk => by
    have : w.heap.size = k := by simpa [Value.ownBlock] using hk
    omega)
def clone (l : List Int) : Option (List Int) := if 0 < l.length then (if l.length ≤ 1000000 then some l else none) else none
def slices_Clone_byte_byte.f (l0 : List Int) : Option (List Int) := clone l0
set_option maxHeartbeats 1000000 in
theorem slices_Clone_byte_byte.calls (A0 : Option Addr) (c0 : Nat) (l0 : List Int) (r : List Int) (w : World) (hr0 : Kd.C (Kd.int .u8) w A0 l0.length l0) (hc0 : l0.length ≤ c0) (h : slices_Clone_byte_byte.f l0 = some r) :
    Calls Try.prog 56 #[.slice A0 l0.length c0] w fun e w' => ∃ v0_ : Value, e = .returned (v0_) ∧ Kd.R (Kd.int .u8) 5 w' w.heap.size (fun _ => True) v0_ r ∧ Below w.heap.size w w' := by
  unfold slices_Clone_byte_byte.f clone at h
  by_cases h0 : 0 < l0.length
  · rw [if_pos h0] at h
    by_cases h1 : l0.length ≤ 1000000
    · rw [if_pos h1] at h
      obtain rfl := Option.some.inj h
      obtain ⟨i0, hi, hz0, hz1, hz2⟩ := info_parts clinfo_u8
      have HI := Aside0.mk hi
      have HZ0 := Aside0.mk hz0
      have HZ1 := Aside0.mk hz1
      have HZ2 := Aside0.mk hz2
      obtain ⟨ad, rfl, hc⟩ := cl_cells hr0 rfl h0
      have HC := Aside0.mk hc
      have H0 := Aside0.mk h0
      have H1 := Aside0.mk h1
      clear hi hz0 hz1 hz2 hr0 hc h0 h1
      have kq := fun W => Lib.run_eql_slice_nil (P := Try.prog) W 22 5 (some ad) l0.length c0 0 0 Try.underlying22
      go_enter Try.func56, Try.ntmps56
      go_wp2_with (first | ((with_reducible refine gate_builtin (b := .append) (xs := #[.tmp 5, .tmp 6]) rfl ?_); at_builtin; (refine wpList_append_own _ rfl (.tmp 5) (.tmp 6) 22 rfl w.heap.size 5 i0 (.int .u8 0) 1 1 Try.underlying22 HI.out HZ0.out HZ1.out HZ2.out rfl (by decide) (.slice (some ⟨w.heap.size, 0, none⟩) 0 0) 0 [] rfl (cl_empty w 5) ad l0.length c0 (encs (Value.int .u8) l0) rfl (by simp [encs]) (fun j u hu => cl_al _ (HC.out j u hu)) (cl_one _) (by have := H1.out; unfold maxLen; omega) (by have := H1.out; omega) (by simp) ?_); (intro v' w1 ho' hb' hv'; have HO := Aside0.mk ho'; have HB := Aside0.mk (cl_below w 5 hb'); clear ho' hb' hv')))
      go_ret
      rw [Nat.zero_add, List.nil_append] at HO
      exact ⟨_, rfl, Kd.R_of_own (h1 := fun _ => rfl) HO.out (fun _ _ => trivial), HB.out⟩
    · rw [if_neg h1] at h; exact absurd h (by simp)
  · rw [if_neg h0] at h; exact absurd h (by simp)
/-- A state of type 67 at block g of W; what its slices lead to came in by w0. -/
def IsS67 (w0 W : World) (g : Nat) (f0 : Int) (f1 : List Int) (f2 : List Int) : Prop := ∃ A1 c1, ∃ A2 c2, W.heap[g]? = some (.cells #[.int .i64 f0, .slice A1 f1.length c1, .slice A2 f2.length c2] 67 (0, 0)) ∧ w0.heap.size ≤ g ∧ Kd.C (Kd.int .u8) w0 A1 f1.length f1 ∧ Kd.C (Kd.int .u8) w0 A2 f2.length f2
theorem IsS67.grown {w0 W : World} {g : Nat} {f0 : Int} {f1 : List Int} {f2 : List Int} {W1 : World} {row : Option Nat} (h : IsS67 w0 W g f0 f1 f2) (hw : W.grownBy W1 row) (hne : some g ≠ row) : IsS67 w0 W1 g f0 f1 f2 := by
  obtain ⟨A1, c1, A2, c2, hb, hg, hr1, hr2⟩ := h
  exact ⟨A1, c1, A2, c2, blk_grown hb hw hne, hg, hr1, hr2⟩
theorem IsS67.kept {w0 W : World} {g : Nat} {f0 : Int} {f1 : List Int} {f2 : List Int} {W1 : World} {S : Nat → Prop} (h : IsS67 w0 W g f0 f1 f2) (hk : Kept W W1 S) (hne : ¬ S g) : IsS67 w0 W1 g f0 f1 f2 := by
  obtain ⟨A1, c1, A2, c2, hb, hg, hr1, hr2⟩ := h
  exact ⟨A1, c1, A2, c2, blk_kept hb hk hne, hg, hr1, hr2⟩
theorem IsS67.below {w0 W : World} {g : Nat} {f0 : Int} {f1 : List Int} {f2 : List Int} {W1 : World} (h : IsS67 w0 W g f0 f1 f2) (hw : Below W.heap.size W W1) : IsS67 w0 W1 g f0 f1 f2 := h.grown (grown_of_below hw none) (by simp)
theorem IsS67.alloc {w0 W : World} {g : Nat} {f0 : Int} {f1 : List Int} {f2 : List Int} (h : IsS67 w0 W g f0 f1 f2) (o : Obj) : IsS67 w0 (W.alloc o) g f0 f1 f2 := h.below (below_alloc (Below.refl _ _) o)
theorem IsS67.drewN {w0 W : World} {g : Nat} {f0 : Int} {f1 : List Int} {f2 : List Int} (h : IsS67 w0 W g f0 f1 f2) (m : Nat) : IsS67 w0 (W.drewN m) g f0 f1 f2 := h
theorem IsS67.drew {w0 W : World} {g : Nat} {f0 : Int} {f1 : List Int} {f2 : List Int} (h : IsS67 w0 W g f0 f1 f2) : IsS67 w0 W.drew g f0 f1 f2 := h
theorem IsS67.at_ {w0 W : World} {g : Nat} {f0 : Int} {f1 : List Int} {f2 : List Int} {w' : World} {m : Nat} (hq : W.drewN m = w') (h : IsS67 w0 W g f0 f1 f2) : IsS67 w0 w' g f0 f1 f2 := by subst hq; exact IsS67.drewN h m
theorem IsS67.apart {w0 W : World} {g : Nat} {f0 : Int} {f1 : List Int} {f2 : List Int} {α : Type} {d : Kd α} {e : Nat} {base : Nat} {ok : Nat → Prop} {v : Value} {xs : List α} (h : IsS67 w0 W g f0 f1 f2) (ho : d.R e W base ok v xs) (ht : ∀ q, q ∈ e :: d.E → q ≠ 67) : d.R e W base (fun k => ok k ∧ k ≠ g) v xs := by
  obtain ⟨A1, c1, A2, c2, hb, hg, hr1, hr2⟩ := h
  exact Kd.R_types ho hb ht
theorem IsS67.own_ne {w0 W : World} {g : Nat} {f0 : Int} {f1 : List Int} {f2 : List Int} {α : Type} {d : Kd α} {e : Nat} {base : Nat} {ok : Nat → Prop} {v : Value} {xs : List α} (h : IsS67 w0 W g f0 f1 f2) (ho : d.R e W base ok v xs) (ht : e ≠ 67) : some g ≠ v.ownBlock := by
  obtain ⟨A1, c1, A2, c2, hb, hg, hr1, hr2⟩ := h
  exact Kd.R_ne ho hb ht
theorem IsS67.lt {w0 W : World} {g : Nat} {f0 : Int} {f1 : List Int} {f2 : List Int} (h : IsS67 w0 W g f0 f1 f2) : g < W.heap.size := by
  obtain ⟨A1, c1, A2, c2, hb, hg, hr1, hr2⟩ := h
  exact blk_lt hb
theorem IsS67.ge {w0 W : World} {g : Nat} {f0 : Int} {f1 : List Int} {f2 : List Int} (h : IsS67 w0 W g f0 f1 f2) : w0.heap.size ≤ g := by
  obtain ⟨A1, c1, A2, c2, hb, hg, hr1, hr2⟩ := h
  exact hg
theorem cellS67_0 {W : World} {g : Nat} {A1 : Option Addr} {c1 : Nat} {A2 : Option Addr} {c2 : Nat} {f0 : Int} {f1 : List Int} {f2 : List Int} (h : W.heap[g]? = some (.cells #[.int .i64 f0, .slice A1 f1.length c1, .slice A2 f2.length c2] 67 (0, 0))) : W.cell? ⟨g, 0, none⟩ = some (.int .i64 f0) := (blk_cell h 0).trans rfl
theorem IsS67.set_0 {w0 W : World} {g : Nat} {f0 : Int} {f1 : List Int} {f2 : List Int} (h : IsS67 w0 W g f0 f1 f2) (x : Int) : IsS67 w0 (W.setCell ⟨g, 0, none⟩ (.int .i64 x)) g x f1 f2 := by
  obtain ⟨A1, c1, A2, c2, hb, hg, hr1, hr2⟩ := h
  exact ⟨A1, c1, A2, c2, by simpa using blk_set hb 0 (.int .i64 x), hg, hr1, hr2⟩
theorem cellS67_1 {W : World} {g : Nat} {A1 : Option Addr} {c1 : Nat} {A2 : Option Addr} {c2 : Nat} {f0 : Int} {f1 : List Int} {f2 : List Int} (h : W.heap[g]? = some (.cells #[.int .i64 f0, .slice A1 f1.length c1, .slice A2 f2.length c2] 67 (0, 0))) : W.cell? ⟨g, 1, none⟩ = some (.slice A1 f1.length c1) := (blk_cell h 1).trans rfl
theorem cellS67_2 {W : World} {g : Nat} {A1 : Option Addr} {c1 : Nat} {A2 : Option Addr} {c2 : Nat} {f0 : Int} {f1 : List Int} {f2 : List Int} (h : W.heap[g]? = some (.cells #[.int .i64 f0, .slice A1 f1.length c1, .slice A2 f2.length c2] 67 (0, 0))) : W.cell? ⟨g, 2, none⟩ = some (.slice A2 f2.length c2) := (blk_cell h 2).trans rfl
def bch_word_len.f (s0_0 : Int) (s0_1 : List Int) (s0_2 : List Int) : Option (Int × Int) := some (wrap64 ((wrap64 (13 * s0_0)) + (wrap64 (8 * (s0_1.length : Int)))), s0_0)
set_option maxHeartbeats 8000000 in
set_option maxRecDepth 100000 in
theorem bch_word_len.calls (g : Nat) (s0_0 : Int) (s0_1 : List Int) (s0_2 : List Int) (r1 : Int) (r2 : Int) (w0 w : World) (hI : IsS67 w0 w g s0_0 s0_1 s0_2) (hB : Below w0.heap.size w0 w) (h : bch_word_len.f s0_0 s0_1 s0_2 = some (r1, r2)) :
    Calls Try.prog 38 #[.pointer (some ⟨g, 0, none⟩)] w fun e w' => e = .returned (.int .i64 r1) ∧ IsS67 w0 w' g r2 s0_1 s0_2 ∧ Below w0.heap.size w0 w' ∧ KeepBut w w' g none := by
  have HI0 := Aside0.mk hI
  have HK := Aside0.mk (KeepBut.refl w g none)
  have HL := Aside0.mk hB.size
  clear hI
  have HW0 := Aside0.mk hB.size
  have HB := Aside0.mk hB
  clear hB
  have H : (some (wrap64 ((wrap64 (13 * s0_0)) + (wrap64 (8 * (s0_1.length : Int)))), s0_0)) = some (r1, r2) := h
  clear h
  simp only [Option.some.injEq, Prod.mk.injEq] at H
  obtain ⟨rfl, rfl⟩ := H
  obtain ⟨ASz2_1, cSz2_1, ASz2_2, cSz2_2, HGz2, hgz2, HSz2_1, HSz2_2⟩ := HI0.out
  have hcz2_0 := cellS67_0 HGz2
  have hcz2_1 := cellS67_1 HGz2
  have hcz2_2 := cellS67_2 HGz2
  have hfz2_0 := blk_frozen HGz2 0
  clear HGz2 hgz2
  go_enter Try.func38, Try.ntmps38
  go_wp2
  repeat (go_quiet (fail); try go_wp2)
  go_ret
  exact ⟨by first | rfl | (simp [errW_none, errW_some] <;> rfl) | (simp [*, errW_none, errW_some] <;> rfl), by repeat (first | (with_reducible first | exact HI0.out | apply IsS67.alloc | apply IsS67.drewN | apply IsS67.drew | apply IsS67.set_0) | exact HI0.out), by repeat (first | (with_reducible first | exact HB.out | apply below_alloc | apply pw_below_drewN | apply below_drew1 | refine below_set ?_ (IsS67.ge HI0.out)) | exact HB.out), by repeat (first | (with_reducible first | exact HK.out | apply KeepBut.set_ | apply keep_drewN | apply keep_drew | apply keep_alloc) | exact HK.out)⟩
/-- A state of type 67 at block g of W: where its slices lie is told. -/
def IsT67 (TA : Option Addr) (TC : Nat) (TB : Option Addr) (TD : Nat) (w0 W : World) (g : Nat) (f0 : Int) (f1 : List Int) (f2 : List Int) : Prop := W.heap[g]? = some (.cells #[.int .i64 f0, .slice TA f1.length TC, .slice TB f2.length TD] 67 (0, 0)) ∧ w0.heap.size ≤ g ∧ Kd.C (Kd.int .u8) w0 TA f1.length f1 ∧ Kd.C (Kd.int .u8) w0 TB f2.length f2
theorem IsT67.grown {TA : Option Addr} {TC : Nat} {TB : Option Addr} {TD : Nat} {w0 W : World} {g : Nat} {f0 : Int} {f1 : List Int} {f2 : List Int} {W1 : World} {row : Option Nat} (h : IsT67 TA TC TB TD w0 W g f0 f1 f2) (hw : W.grownBy W1 row) (hne : some g ≠ row) : IsT67 TA TC TB TD w0 W1 g f0 f1 f2 := by
  obtain ⟨hb, hg, hr1, hr2⟩ := h
  exact ⟨blk_grown hb hw hne, hg, hr1, hr2⟩
theorem IsT67.kept {TA : Option Addr} {TC : Nat} {TB : Option Addr} {TD : Nat} {w0 W : World} {g : Nat} {f0 : Int} {f1 : List Int} {f2 : List Int} {W1 : World} {S : Nat → Prop} (h : IsT67 TA TC TB TD w0 W g f0 f1 f2) (hk : Kept W W1 S) (hne : ¬ S g) : IsT67 TA TC TB TD w0 W1 g f0 f1 f2 := by
  obtain ⟨hb, hg, hr1, hr2⟩ := h
  exact ⟨blk_kept hb hk hne, hg, hr1, hr2⟩
theorem IsT67.below {TA : Option Addr} {TC : Nat} {TB : Option Addr} {TD : Nat} {w0 W : World} {g : Nat} {f0 : Int} {f1 : List Int} {f2 : List Int} {W1 : World} (h : IsT67 TA TC TB TD w0 W g f0 f1 f2) (hw : Below W.heap.size W W1) : IsT67 TA TC TB TD w0 W1 g f0 f1 f2 := h.grown (grown_of_below hw none) (by simp)
theorem IsT67.alloc {TA : Option Addr} {TC : Nat} {TB : Option Addr} {TD : Nat} {w0 W : World} {g : Nat} {f0 : Int} {f1 : List Int} {f2 : List Int} (h : IsT67 TA TC TB TD w0 W g f0 f1 f2) (o : Obj) : IsT67 TA TC TB TD w0 (W.alloc o) g f0 f1 f2 := h.below (below_alloc (Below.refl _ _) o)
theorem IsT67.drewN {TA : Option Addr} {TC : Nat} {TB : Option Addr} {TD : Nat} {w0 W : World} {g : Nat} {f0 : Int} {f1 : List Int} {f2 : List Int} (h : IsT67 TA TC TB TD w0 W g f0 f1 f2) (m : Nat) : IsT67 TA TC TB TD w0 (W.drewN m) g f0 f1 f2 := h
theorem IsT67.drew {TA : Option Addr} {TC : Nat} {TB : Option Addr} {TD : Nat} {w0 W : World} {g : Nat} {f0 : Int} {f1 : List Int} {f2 : List Int} (h : IsT67 TA TC TB TD w0 W g f0 f1 f2) : IsT67 TA TC TB TD w0 W.drew g f0 f1 f2 := h
theorem IsT67.at_ {TA : Option Addr} {TC : Nat} {TB : Option Addr} {TD : Nat} {w0 W : World} {g : Nat} {f0 : Int} {f1 : List Int} {f2 : List Int} {w' : World} {m : Nat} (hq : W.drewN m = w') (h : IsT67 TA TC TB TD w0 W g f0 f1 f2) : IsT67 TA TC TB TD w0 w' g f0 f1 f2 := by subst hq; exact IsT67.drewN h m
theorem IsT67.apart {TA : Option Addr} {TC : Nat} {TB : Option Addr} {TD : Nat} {w0 W : World} {g : Nat} {f0 : Int} {f1 : List Int} {f2 : List Int} {α : Type} {d : Kd α} {e : Nat} {base : Nat} {ok : Nat → Prop} {v : Value} {xs : List α} (h : IsT67 TA TC TB TD w0 W g f0 f1 f2) (ho : d.R e W base ok v xs) (ht : ∀ q, q ∈ e :: d.E → q ≠ 67) : d.R e W base (fun k => ok k ∧ k ≠ g) v xs := by
  obtain ⟨hb, hg, hr1, hr2⟩ := h
  exact Kd.R_types ho hb ht
theorem IsT67.own_ne {TA : Option Addr} {TC : Nat} {TB : Option Addr} {TD : Nat} {w0 W : World} {g : Nat} {f0 : Int} {f1 : List Int} {f2 : List Int} {α : Type} {d : Kd α} {e : Nat} {base : Nat} {ok : Nat → Prop} {v : Value} {xs : List α} (h : IsT67 TA TC TB TD w0 W g f0 f1 f2) (ho : d.R e W base ok v xs) (ht : e ≠ 67) : some g ≠ v.ownBlock := by
  obtain ⟨hb, hg, hr1, hr2⟩ := h
  exact Kd.R_ne ho hb ht
theorem IsT67.lt {TA : Option Addr} {TC : Nat} {TB : Option Addr} {TD : Nat} {w0 W : World} {g : Nat} {f0 : Int} {f1 : List Int} {f2 : List Int} (h : IsT67 TA TC TB TD w0 W g f0 f1 f2) : g < W.heap.size := by
  obtain ⟨hb, hg, hr1, hr2⟩ := h
  exact blk_lt hb
theorem IsT67.ge {TA : Option Addr} {TC : Nat} {TB : Option Addr} {TD : Nat} {w0 W : World} {g : Nat} {f0 : Int} {f1 : List Int} {f2 : List Int} (h : IsT67 TA TC TB TD w0 W g f0 f1 f2) : w0.heap.size ≤ g := by
  obtain ⟨hb, hg, hr1, hr2⟩ := h
  exact hg
theorem IsT67.set_0 {TA : Option Addr} {TC : Nat} {TB : Option Addr} {TD : Nat} {w0 W : World} {g : Nat} {f0 : Int} {f1 : List Int} {f2 : List Int} (h : IsT67 TA TC TB TD w0 W g f0 f1 f2) (x : Int) : IsT67 TA TC TB TD w0 (W.setCell ⟨g, 0, none⟩ (.int .i64 x)) g x f1 f2 := by
  obtain ⟨hb, hg, hr1, hr2⟩ := h
  exact ⟨by simpa using blk_set hb 0 (.int .i64 x), hg, hr1, hr2⟩
set_option maxHeartbeats 8000000 in
set_option maxRecDepth 100000 in
theorem bch_word_len.callsT (TA : Option Addr) (TC : Nat) (TB : Option Addr) (TD : Nat) (g : Nat) (s0_0 : Int) (s0_1 : List Int) (s0_2 : List Int) (r1 : Int) (r2 : Int) (w0 w : World) (hI : IsT67 TA TC TB TD w0 w g s0_0 s0_1 s0_2) (hB : Below w0.heap.size w0 w) (h : bch_word_len.f s0_0 s0_1 s0_2 = some (r1, r2)) :
    Calls Try.prog 38 #[.pointer (some ⟨g, 0, none⟩)] w fun e w' => e = .returned (.int .i64 r1) ∧ IsT67 TA TC TB TD w0 w' g r2 s0_1 s0_2 ∧ Below w0.heap.size w0 w' ∧ KeepBut w w' g none := by
  have HI0 := Aside0.mk hI
  have HK := Aside0.mk (KeepBut.refl w g none)
  have HL := Aside0.mk hB.size
  clear hI
  have HW0 := Aside0.mk hB.size
  have HB := Aside0.mk hB
  clear hB
  have H : (some (wrap64 ((wrap64 (13 * s0_0)) + (wrap64 (8 * (s0_1.length : Int)))), s0_0)) = some (r1, r2) := h
  clear h
  simp only [Option.some.injEq, Prod.mk.injEq] at H
  obtain ⟨rfl, rfl⟩ := H
  obtain ⟨HGz2, hgz2, HSz2_1, HSz2_2⟩ := HI0.out
  have hcz2_0 := cellS67_0 HGz2
  have hcz2_1 := cellS67_1 HGz2
  have hcz2_2 := cellS67_2 HGz2
  have hfz2_0 := blk_frozen HGz2 0
  clear HGz2 hgz2
  go_enter Try.func38, Try.ntmps38
  go_wp2
  repeat (go_quiet (fail); try go_wp2)
  go_ret
  exact ⟨by first | rfl | (simp [errW_none, errW_some] <;> rfl) | (simp [*, errW_none, errW_some] <;> rfl), by repeat (first | (with_reducible first | exact HI0.out | apply IsT67.alloc | apply IsT67.drewN | apply IsT67.drew | apply IsT67.set_0) | exact HI0.out), by repeat (first | (with_reducible first | exact HB.out | apply below_alloc | apply pw_below_drewN | apply below_drew1 | refine below_set ?_ (IsT67.ge HI0.out)) | exact HB.out), by repeat (first | (with_reducible first | exact HK.out | apply KeepBut.set_ | apply keep_drewN | apply keep_drew | apply keep_alloc) | exact HK.out)⟩
end Go.Proofs.Ytbaiildpabdlpaa.P
